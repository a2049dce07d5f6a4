/- Written for this claim by a program of this session (drive.py, over the print of the kit): Lean functions with the answers of Go functions, and the proofs that the Go code comes to these answers, under no condition but the readings of the arguments that each theorem names. -/
import Derived.Test.YtkpkkjbigndnoaaDoorPx0
import Derived.Test.YtkpkkjbigndnoaaDoorPx3
import Derived.Test.YtkpkkjbigndnoaaDoorPx6
namespace Go.Proofs.YtkpkkjbigndnoaaDoor.P
open Go.RowKit Go.Proofs.YtkpkkjbigndnoaaDoorW.PrintWords Go.Proofs.YtkpkkjbigndnoaaDoorW.PrintLast Go.Proofs.YtkpkkjbigndnoaaDoorW.PrintMore
attribute [local go_sem] max2_int min2_int max_two min_two max_three min_three max_four min_four   -- for this text's walks alone
set_option linter.unusedVariables false
set_option linter.unusedSimpArgs false

-- NOT PRINTED: function 44 (code_regD)

-- NOT PRINTED: function 45 (code_imm)

-- NOT PRINTED: function 46 (code_amount)

-- NOT PRINTED: function 47 (code_regN)

-- NOT PRINTED: function 48 (code_masked)

-- NOT PRINTED: function 49 (code_regM)

-- NOT PRINTED: function 50 (code_shift)

-- NOT PRINTED: function 51 (code_regA)

-- NOT PRINTED: function 52 (code_page)

-- NOT PRINTED: function 53 (code_cond)

-- NOT PRINTED: function 25 (code_parts)

/-! ### code_must: function 34 -/
theorem code_must.ok (w : World) : Calls Tryd.prog 34 #[.int .i64 0] w fun e w' => e = .returned (.tuple #[]) ∧ w = w' := by
  go_enter Tryd.func34, Tryd.ntmps34
  go_wp2
  go_end0
  exact ⟨rfl, rfl⟩
theorem code_must.bad (x : Int) (w : World) (h : x ≠ 0) : Calls Tryd.prog 34 #[.int .i64 x] w fun e w' => e = .panicked [{ v := .iface 26 (.int .i64 x), recovered := false }] ∧ w = w' := by
  have h1 : (x != 0) = true := by simpa using h
  go_enter Tryd.func34, Tryd.ntmps34
  go_wp2
  exact ⟨rfl, rfl, rfl⟩

/-! ### bits_Pack: function 54 -/
def bits_Pack.j0 : Nat → Int → Int → Bool → Option (Int × Int)
 | 0, _, _, _ => none
 | k + 1, x0, x1, x12 => if x12 = true then (some (0, 1)) else (if 0 ≤ (wrap64 (x1 - 1)) then (if (shr .i64 x0 (wrap64 (x1 - 1))) = 0 then ((bits_ones.f x1).bind fun t147 => (some (Go.bits .and .u32 ((x0) % 4294967296) ((t147) % 4294967296), 0))) else (if (shr .i64 x0 (wrap64 (x1 - 1))) = (-1) then ((bits_ones.f x1).bind fun t148 => (some (Go.bits .and .u32 ((x0) % 4294967296) ((t148) % 4294967296), 0))) else (some (0, 4)))) else (none))
def bits_Pack.f (k : Nat) (a0 : Int) (a1 : Int) : Option (Int × Int) := if a1 < 1 then (bits_Pack.j0 k a0 a1 true) else (bits_Pack.j0 k a0 a1 (decide (a1 > 32)))
theorem bits_Pack.mono_l : ∀ k, (∀ y0 y1 y2, LeO (bits_Pack.j0 k y0 y1 y2) (bits_Pack.j0 (k + 1) y0 y1 y2))
 | 0 => fun _ _ _ r h => by simp [bits_Pack.j0] at h
 | k + 1 => by
  have ih0 := bits_Pack.mono_l k
  ·
   intro y0 y1 y2
   unfold bits_Pack.j0
   repeat' first
   | (with_reducible exact ih0 _ _ _)
   | (with_reducible exact LeO.refl _)
   | (with_reducible exact LeO.none _)
   | (with_reducible refine LeO.ite ?_ ?_)
   | (with_reducible refine LeO.bind ?_ (fun _ => ?_))
   | exact ih0 _ _ _
   | exact LeO.none _
   | refine LeO.ite ?_ ?_
   | refine LeO.bind ?_ (fun _ => ?_)
theorem bits_Pack.mono : ∀ a0 a1 k, LeO (bits_Pack.f k a0 a1) (bits_Pack.f (k + 1) a0 a1) := by
 intro a0 a1 k
 have ih0 := bits_Pack.mono_l k
 unfold bits_Pack.f
 repeat' first
   | (with_reducible exact ih0 _ _ _)
   | (with_reducible exact LeO.refl _)
   | (with_reducible exact LeO.none _)
   | (with_reducible refine LeO.ite ?_ ?_)
   | (with_reducible refine LeO.bind ?_ (fun _ => ?_))
   | exact ih0 _ _ _
   | exact LeO.none _
   | refine LeO.ite ?_ ?_
   | refine LeO.bind ?_ (fun _ => ?_)
set_option maxHeartbeats 8000000 in
set_option maxRecDepth 100000 in
theorem bits_Pack.calls (k : Nat) (a0 : Int) (a1 : Int) (r1 : Int) (r2 : Int) (w : World) (h : bits_Pack.f k a0 a1 = some (r1, r2)) :
    Calls Tryd.prog 54 #[.int .i64 a0, .int .i64 a1] w fun e w' => e = .returned (.tuple #[.int .u32 r1, .int .i64 r2]) ∧ Drawn0 w w' := by
 have H : (if a1 < 1 then (bits_Pack.j0 k a0 a1 true) else (bits_Pack.j0 k a0 a1 (decide (a1 > 32)))) = some (r1, r2) := h
 clear h
 have HC3 := Aside0.mk H
 clear H
 go_enter Tryd.func54, Tryd.ntmps54
 go_upto_region 1 with (fail)
 go_cut [12] (fun v12 wc => ∃ (kq : Nat) (x12_2 : Bool), v12 = .bool x12_2 ∧ Aside0 (bits_Pack.j0 kq a0 a1 x12_2 = some (r1, r2)) ∧ Aside0 (kq ≤ k) ∧ Drawn0 w wc)
 case first =>
  have H := HC3.out
  clear HC3
  (try (rw [drewN_self w]; have n0_ := fun n_ => pw_below_drewN HB.out n_; clear HB; generalize hq_ : World.drewN w _ = w; have HB := Aside0.mk (hq_ ▸ n0_ _); clear hq_ n0_))
  by_cases c4 : a1 < 1
  ·
   rw [if_pos c4] at H
   have c4b0 : decide (a1 < 1) = true := decide_eq_true c4
   clear c4
   (first | rw [c4b0] | (simp only [i64_w, i32_w]; rw [c4b0]) | skip)
   have H' := Aside0.mk H
   clear H
   go_wp2
   go_meet
   case rel => exact ⟨_, (true), (by first | rfl | (simp; done) | (simp [*]; done)), H', ⟨by first | omega | exact Nat.le_refl _⟩, by repeat (first | exact Drawn0.refl _ | apply Drawn0.step)⟩
  ·
   rw [if_neg c4] at H
   have c4b0 : decide (a1 < 1) = false := decide_eq_false c4
   clear c4
   (first | rw [c4b0] | (simp only [i64_w, i32_w]; rw [c4b0]) | skip)
   have H' := Aside0.mk H
   clear H
   go_wp2
   go_meet
   case rel => exact ⟨_, (decide (a1 > 32)), (by first | rfl | (simp; done) | (simp [*]; done)), H', ⟨by first | omega | exact Nat.le_refl _⟩, by repeat (first | exact Drawn0.refl _ | apply Drawn0.step)⟩
 case rest =>
  clear HC3
  try clear p2
  try clear c4
  try clear c4b0
  obtain ⟨kq, x12_2, rfl, HA, HJ2, ⟨mc2, rfl⟩⟩ := hcut
  cases kq with
  | zero => exact absurd HA.out (by simp [bits_Pack.j0])
  | succ kj2 =>
   have H := HA.out
   clear HA
   simp only [bits_Pack.j0] at H
   by_cases c5 : x12_2 = true
   ·
    subst c5
    have H1 : (some (0, 1)) = some (r1, r2) := by rw [if_pos rfl] at H; exact H
    clear H
    have H := H1
    clear H1
    simp only [Option.some.injEq, Prod.mk.injEq] at H
    obtain ⟨rfl, rfl⟩ := H
    go_wp2
    go_ret2
    exact ⟨by first | rfl | (simp; done) | (simp [*]; done), by repeat (first | exact Drawn0.refl _ | apply Drawn0.step)⟩
   ·
    replace c5 := Bool.eq_false_iff.mpr c5
    subst c5
    have H1 : (if 0 ≤ (wrap64 (a1 - 1)) then (if (shr .i64 a0 (wrap64 (a1 - 1))) = 0 then ((bits_ones.f a1).bind fun t147 => (some (Go.bits .and .u32 ((a0) % 4294967296) ((t147) % 4294967296), 0))) else (if (shr .i64 a0 (wrap64 (a1 - 1))) = (-1) then ((bits_ones.f a1).bind fun t148 => (some (Go.bits .and .u32 ((a0) % 4294967296) ((t148) % 4294967296), 0))) else (some (0, 4)))) else (none)) = some (r1, r2) := by rw [if_neg (show ¬ (false = true) by decide)] at H; exact H
    clear H
    have H := H1
    clear H1
    obtain ⟨ji6, hji6⟩ : ∃ j_ : Int, (wrap64 (a1 - 1)) = j_ := ⟨_, rfl⟩
    replace H : (if 0 ≤ (ji6) then (if (shr .i64 a0 (ji6)) = 0 then ((bits_ones.f a1).bind fun t147 => (some (Go.bits .and .u32 ((a0) % 4294967296) ((t147) % 4294967296), 0))) else (if (shr .i64 a0 (ji6)) = (-1) then ((bits_ones.f a1).bind fun t148 => (some (Go.bits .and .u32 ((a0) % 4294967296) ((t148) % 4294967296), 0))) else (some (0, 4)))) else (none)) = some (r1, r2) := by first | (rw [hji6] at H; exact H) | (simp only [hji6] at H ⊢; exact H)
    have hji6w : (IntKind.i64.wrap (a1 - 1)) = ji6 := (i64_w _).trans hji6
    by_cases c7 : 0 ≤ (ji6)
    ·
     rw [if_pos c7] at H
     have c7b0 := eq_true c7
     have c7b1 : decide (0 ≤ (ji6)) = true := decide_eq_true c7
     clear c7
     obtain ⟨ji8, hji8⟩ : ∃ j_ : Int, (shr .i64 a0 (ji6)) = j_ := ⟨_, rfl⟩
     replace H : (if (ji8) = 0 then ((bits_ones.f a1).bind fun t147 => (some (Go.bits .and .u32 ((a0) % 4294967296) ((t147) % 4294967296), 0))) else (if (ji8) = (-1) then ((bits_ones.f a1).bind fun t148 => (some (Go.bits .and .u32 ((a0) % 4294967296) ((t148) % 4294967296), 0))) else (some (0, 4)))) = some (r1, r2) := by first | (rw [hji8] at H; exact H) | (simp only [hji8] at H ⊢; exact H)
     have hji8_ : (a0 / 2 ^ min (ji6).toNat 64) = ji8 := hji8
     have hji8z : (ji6) ≤ 64 → (a0 / 2 ^ (ji6).toNat) = ji8 := shr_small hji8
     by_cases c9 : (ji8) = 0
     ·
      rw [if_pos c9] at H
      have c9b0 : ((ji8) == 0) = true := beq_iff_eq.mpr c9
      have c9b1 : ((ji8) != 0) = false := bne_eq_false_iff_eq.mpr c9
      clear c9
      replace H := Option.bind_eq_some_iff.mp H
      obtain ⟨t147, A100, H⟩ := H
      replace H : (some (Go.bits .and .u32 ((a0) % 4294967296) ((t147) % 4294967296), 0)) = some (r1, r2) := H
      have A10 := Aside0.mk A100
      clear A100
      simp only [Option.some.injEq, Prod.mk.injEq] at H
      obtain ⟨rfl, rfl⟩ := H
      go_wp2_with (first | ((with_reducible refine gate_callee (f := 37) rfl ?_); refine goesL_ (some 26) rfl rfl Tryd.func37 (by kernel_rfl) rfl #[.int .i64 a1] rfl (by (try simp only [List.map_toArray, List.map_cons, List.map_nil]); first | done | rfl | (simp only [List.length_drop, List.length_take]; rfl)) ?_; (with_reducible refine (bits_ones.calls a1 t147 _ A10.out).mono ?_); rintro e w' ⟨rfl, ⟨nd, rfl⟩⟩; refine ⟨_, rfl, ?_⟩))
      go_ret2
      exact ⟨by first | rfl | (simp; done) | (simp only [← hji6, ← hji8] <;> (first | rfl | simp)) | (simp [*]; done), by repeat (first | exact Drawn0.refl _ | apply Drawn0.step)⟩
     ·
      rw [if_neg c9] at H
      have c9b0 : ((ji8) == 0) = false := beq_eq_false_iff_ne.mpr c9
      have c9b1 : ((ji8) != 0) = true := bne_iff_ne.mpr c9
      by_cases c11 : (ji8) = (-1)
      ·
       rw [if_pos c11] at H
       have c11b0 : ((ji8) == (-1)) = true := beq_iff_eq.mpr c11
       have c11b1 : ((ji8) != (-1)) = false := bne_eq_false_iff_eq.mpr c11
       clear c11
       replace H := Option.bind_eq_some_iff.mp H
       obtain ⟨t148, A120, H⟩ := H
       replace H : (some (Go.bits .and .u32 ((a0) % 4294967296) ((t148) % 4294967296), 0)) = some (r1, r2) := H
       have A12 := Aside0.mk A120
       clear A120
       simp only [Option.some.injEq, Prod.mk.injEq] at H
       obtain ⟨rfl, rfl⟩ := H
       go_wp2_with (first | ((with_reducible refine gate_callee (f := 37) rfl ?_); refine goesL_ (some 26) rfl rfl Tryd.func37 (by kernel_rfl) rfl #[.int .i64 a1] rfl (by (try simp only [List.map_toArray, List.map_cons, List.map_nil]); first | done | rfl | (simp only [List.length_drop, List.length_take]; rfl)) ?_; (with_reducible refine (bits_ones.calls a1 t148 _ A12.out).mono ?_); rintro e w' ⟨rfl, ⟨nd, rfl⟩⟩; refine ⟨_, rfl, ?_⟩))
       go_ret2
       exact ⟨by first | rfl | (simp; done) | (simp only [← hji6, ← hji8] <;> (first | rfl | simp)) | (simp [*]; done), by repeat (first | exact Drawn0.refl _ | apply Drawn0.step)⟩
      ·
       rw [if_neg c11] at H
       have c11b0 : ((ji8) == (-1)) = false := beq_eq_false_iff_ne.mpr c11
       have c11b1 : ((ji8) != (-1)) = true := bne_iff_ne.mpr c11
       simp only [Option.some.injEq, Prod.mk.injEq] at H
       obtain ⟨rfl, rfl⟩ := H
       go_wp2
       go_ret2
       exact ⟨by first | rfl | (simp; done) | (simp only [← hji6, ← hji8] <;> (first | rfl | simp)) | (simp [*]; done), by repeat (first | exact Drawn0.refl _ | apply Drawn0.step)⟩
    ·
     rw [if_neg c7] at H
     exact absurd H (by simp)

/-! ### code_part_field: function 26 -/
/-- A field of an instruction's word, by what of the instruction it tells. -/
inductive PD where
  | d | n | m | a | imm (at_ n_ by_ : Int) (sg : Bool) | amt (at_ n_ by_ : Int) | sh | cond (at_ : Int) | lo | hi | mk (k : Nat)
def PD.at_ : PD → Int
  | .d => 0 | .n => 5 | .m => 16 | .a => 10 | .imm x _ _ _ => x | .amt x _ _ => x | .sh => 22 | .cond x => x | .lo => 29 | .hi => 5 | .mk 0 => 22 | .mk 1 => 16 | .mk _ => 10
def PD.n_ : PD → Int
  | .d => 5 | .n => 5 | .m => 5 | .a => 5 | .imm _ x _ _ => x | .amt _ x _ => x | .sh => 2 | .cond _ => 4 | .lo => 2 | .hi => 19 | .mk 0 => 1 | .mk _ => 6
def PD.sg_ : PD → Bool
  | .imm _ _ _ x => x | .hi => true | _ => false
/-- What an instruction tells of it. -/
def PD.get (k : Nat) (p : PD) (i0 i1 i2 i3 i4 i5 i6 i7 i8 i9 : Int) : Option Int :=
  match p with
  | .d => some i1 | .n => some i2 | .m => some i3 | .a => some i4 | .sh => some i7 | .cond _ => some i9
  | .imm _ _ b _ => if b = 0 then none else some (wrap64 (i5.tdiv b))
  | .amt _ _ b => if b = 0 then none else some (wrap64 (i8.tdiv b))
  | .lo => some (Go.bits .and .i64 i5 3)
  | .hi => some (i5 / 4)
  | .mk j => (mask_Encode.f k i6).bind fun t => if t.2.2.2 = 0 then some (if j = 0 then t.1 else if j = 1 then t.2.1 else t.2.2.1) else none
/-- The function that gets it, in memory. -/
def GetV (w : World) : PD → Value → Prop
  | .d, g => g = .func (.func 60) #[] #[]
  | .n, g => g = .func (.func 66) #[] #[]
  | .m, g => g = .func (.func 74) #[] #[]
  | .a, g => g = .func (.func 78) #[] #[]
  | .sh, g => g = .func (.func 76) #[] #[]
  | .cond _, g => g = .func (.func 84) #[] #[]
  | .lo, g => g = .func (.func 80) #[] #[]
  | .hi, g => g = .func (.func 82) #[] #[]
  | .imm _ _ b _, g => ∃ B, g = .func (.func 62) #[] #[.pointer (some ⟨B, 0, none⟩)] ∧ w.cell? ⟨B, 0, none⟩ = some (.int .i64 b)
  | .amt _ _ b, g => ∃ B, g = .func (.func 64) #[] #[.pointer (some ⟨B, 0, none⟩)] ∧ w.cell? ⟨B, 0, none⟩ = some (.int .i64 b)
  | .mk j, g => j < 3 ∧ ∃ B, g = .func (.func 69) #[] #[.pointer (some ⟨B, 0, none⟩)] ∧ w.cell? ⟨B, 0, none⟩ = some (.int .i64 j)
theorem get_d (i0 i1 i2 i3 i4 i5 i6 i7 i8 i9 : Int) (w : World) : Calls Tryd.prog 60 #[.agg #[.int .i64 i0, .int .i64 i1, .int .i64 i2, .int .i64 i3, .int .i64 i4, .int .i64 i5, .int .u64 i6, .int .i64 i7, .int .i64 i8, .int .i64 i9]] w fun e w' => e = .returned (.int .i64 i1) ∧ Below w.heap.size w w' := by
  go_enter Tryd.func60, Tryd.ntmps60
  go_wp2
  go_ret
  exact ⟨rfl, below_alloc (Below.refl _ _) _⟩
theorem get_n (i0 i1 i2 i3 i4 i5 i6 i7 i8 i9 : Int) (w : World) : Calls Tryd.prog 66 #[.agg #[.int .i64 i0, .int .i64 i1, .int .i64 i2, .int .i64 i3, .int .i64 i4, .int .i64 i5, .int .u64 i6, .int .i64 i7, .int .i64 i8, .int .i64 i9]] w fun e w' => e = .returned (.int .i64 i2) ∧ Below w.heap.size w w' := by
  go_enter Tryd.func66, Tryd.ntmps66
  go_wp2
  go_ret
  exact ⟨rfl, below_alloc (Below.refl _ _) _⟩
theorem get_m (i0 i1 i2 i3 i4 i5 i6 i7 i8 i9 : Int) (w : World) : Calls Tryd.prog 74 #[.agg #[.int .i64 i0, .int .i64 i1, .int .i64 i2, .int .i64 i3, .int .i64 i4, .int .i64 i5, .int .u64 i6, .int .i64 i7, .int .i64 i8, .int .i64 i9]] w fun e w' => e = .returned (.int .i64 i3) ∧ Below w.heap.size w w' := by
  go_enter Tryd.func74, Tryd.ntmps74
  go_wp2
  go_ret
  exact ⟨rfl, below_alloc (Below.refl _ _) _⟩
theorem get_a (i0 i1 i2 i3 i4 i5 i6 i7 i8 i9 : Int) (w : World) : Calls Tryd.prog 78 #[.agg #[.int .i64 i0, .int .i64 i1, .int .i64 i2, .int .i64 i3, .int .i64 i4, .int .i64 i5, .int .u64 i6, .int .i64 i7, .int .i64 i8, .int .i64 i9]] w fun e w' => e = .returned (.int .i64 i4) ∧ Below w.heap.size w w' := by
  go_enter Tryd.func78, Tryd.ntmps78
  go_wp2
  go_ret
  exact ⟨rfl, below_alloc (Below.refl _ _) _⟩
theorem get_sh (i0 i1 i2 i3 i4 i5 i6 i7 i8 i9 : Int) (w : World) : Calls Tryd.prog 76 #[.agg #[.int .i64 i0, .int .i64 i1, .int .i64 i2, .int .i64 i3, .int .i64 i4, .int .i64 i5, .int .u64 i6, .int .i64 i7, .int .i64 i8, .int .i64 i9]] w fun e w' => e = .returned (.int .i64 i7) ∧ Below w.heap.size w w' := by
  go_enter Tryd.func76, Tryd.ntmps76
  go_wp2
  go_ret
  exact ⟨rfl, below_alloc (Below.refl _ _) _⟩
theorem get_cond (i0 i1 i2 i3 i4 i5 i6 i7 i8 i9 : Int) (w : World) : Calls Tryd.prog 84 #[.agg #[.int .i64 i0, .int .i64 i1, .int .i64 i2, .int .i64 i3, .int .i64 i4, .int .i64 i5, .int .u64 i6, .int .i64 i7, .int .i64 i8, .int .i64 i9]] w fun e w' => e = .returned (.int .i64 i9) ∧ Below w.heap.size w w' := by
  go_enter Tryd.func84, Tryd.ntmps84
  go_wp2
  go_ret
  exact ⟨rfl, below_alloc (Below.refl _ _) _⟩
theorem get_lo (i0 i1 i2 i3 i4 i5 i6 i7 i8 i9 : Int) (w : World) : Calls Tryd.prog 80 #[.agg #[.int .i64 i0, .int .i64 i1, .int .i64 i2, .int .i64 i3, .int .i64 i4, .int .i64 i5, .int .u64 i6, .int .i64 i7, .int .i64 i8, .int .i64 i9]] w fun e w' => e = .returned (.int .i64 (Go.bits .and .i64 i5 3)) ∧ Below w.heap.size w w' := by
  go_enter Tryd.func80, Tryd.ntmps80
  go_wp2
  go_ret
  exact ⟨rfl, below_alloc (Below.refl _ _) _⟩
theorem get_hi (i0 i1 i2 i3 i4 i5 i6 i7 i8 i9 : Int) (w : World) : Calls Tryd.prog 82 #[.agg #[.int .i64 i0, .int .i64 i1, .int .i64 i2, .int .i64 i3, .int .i64 i4, .int .i64 i5, .int .u64 i6, .int .i64 i7, .int .i64 i8, .int .i64 i9]] w fun e w' => e = .returned (.int .i64 (i5 / 4)) ∧ Below w.heap.size w w' := by
  go_enter Tryd.func82, Tryd.ntmps82
  go_wp2
  go_ret
  exact ⟨rfl, below_alloc (Below.refl _ _) _⟩
theorem get_imm (i0 i1 i2 i3 i4 i5 i6 i7 i8 i9 : Int) (b : Int) (B : Nat) (w : World) (hb : b ≠ 0) (hc : w.cell? ⟨B, 0, none⟩ = some (.int .i64 b)) : Calls Tryd.prog 62 #[.agg #[.int .i64 i0, .int .i64 i1, .int .i64 i2, .int .i64 i3, .int .i64 i4, .int .i64 i5, .int .u64 i6, .int .i64 i7, .int .i64 i8, .int .i64 i9], .pointer (some ⟨B, 0, none⟩)] w fun e w' => e = .returned (.int .i64 (wrap64 (i5.tdiv b))) ∧ Below w.heap.size w w' := by
  have hB : B < w.heap.size := World.block_lt_of_cell? w ⟨B, 0, none⟩ hc
  have hb0 : ¬ b = 0 := hb
  go_enter Tryd.func62, Tryd.ntmps62
  go_wp2
  go_ret
  exact ⟨rfl, below_alloc (Below.refl _ _) _⟩
theorem get_amt (i0 i1 i2 i3 i4 i5 i6 i7 i8 i9 : Int) (b : Int) (B : Nat) (w : World) (hb : b ≠ 0) (hc : w.cell? ⟨B, 0, none⟩ = some (.int .i64 b)) : Calls Tryd.prog 64 #[.agg #[.int .i64 i0, .int .i64 i1, .int .i64 i2, .int .i64 i3, .int .i64 i4, .int .i64 i5, .int .u64 i6, .int .i64 i7, .int .i64 i8, .int .i64 i9], .pointer (some ⟨B, 0, none⟩)] w fun e w' => e = .returned (.int .i64 (wrap64 (i8.tdiv b))) ∧ Below w.heap.size w w' := by
  have hB : B < w.heap.size := World.block_lt_of_cell? w ⟨B, 0, none⟩ hc
  have hb0 : ¬ b = 0 := hb
  go_enter Tryd.func64, Tryd.ntmps64
  go_wp2
  go_ret
  exact ⟨rfl, below_alloc (Below.refl _ _) _⟩
theorem get_mk (i0 i1 i2 i3 i4 i5 i6 i7 i8 i9 : Int) (j : Nat) (hj : j < 3) (B k : Nat) (t0 t1 t2 : Int) (w : World) (hc : w.cell? ⟨B, 0, none⟩ = some (.int .i64 j)) (hm : mask_Encode.f k i6 = some (t0, t1, t2, 0)) (hTab : TabW w) : Calls Tryd.prog 69 #[.agg #[.int .i64 i0, .int .i64 i1, .int .i64 i2, .int .i64 i3, .int .i64 i4, .int .i64 i5, .int .u64 i6, .int .i64 i7, .int .i64 i8, .int .i64 i9], .pointer (some ⟨B, 0, none⟩)] w fun e w' => e = .returned (.int .i64 (if j = 0 then t0 else if j = 1 then t1 else t2)) ∧ Below w.heap.size w w' := by
  have hB : B < w.heap.size := World.block_lt_of_cell? w ⟨B, 0, none⟩ hc
  have HM := Aside0.mk hm
  clear hm
  have HC := Aside0.mk hc
  clear hc
  have i0 : ∀ w, (Instr.index 104 (.agg #[.int .i64 t0, .int .i64 t1, .int .i64 t2]) (.int .i64 0)).run Tryd.prog w = .ok (.int .i64 t0) w := fun _ => by kernel_rfl
  have i1 : ∀ w, (Instr.index 104 (.agg #[.int .i64 t0, .int .i64 t1, .int .i64 t2]) (.int .i64 1)).run Tryd.prog w = .ok (.int .i64 t1) w := fun _ => by kernel_rfl
  have i2 : ∀ w, (Instr.index 104 (.agg #[.int .i64 t0, .int .i64 t1, .int .i64 t2]) (.int .i64 2)).run Tryd.prog w = .ok (.int .i64 t2) w := fun _ => by kernel_rfl
  obtain rfl | rfl | rfl : j = 0 ∨ j = 1 ∨ j = 2 := by omega
  all_goals
    go_enter Tryd.func69, Tryd.ntmps69
    go_wp2_with (first | (go_at_call 70; refine (mask_Encode.calls _ _ _ _ _ _ _ HM.out (hTab := TabW.below hTab (below_alloc (Below.refl _ _) _))).mono ?_; rintro e w1 ⟨rfl, hb1⟩; have hc1 := pw_cell_below hb1 (pw_cell_below (below_alloc (Below.refl _ _) _) HC.out); have HB := Aside0.mk (below_step (below_alloc (Below.refl _ _) _) hb1); clear hb1) | (go_at_call 34; refine (code_must.ok _).mono ?_; rintro e w2 ⟨rfl, rfl⟩))
    go_ret
    exact ⟨rfl, HB.out⟩
theorem GetV.below {w w' : World} {p : PD} {g : Value} (h : GetV w p g) (hb : Below w.heap.size w w') : GetV w' p g := by
  cases p <;> simp only [GetV] at h ⊢
  all_goals first
    | exact h
    | (obtain ⟨B, e, hc⟩ := h; exact ⟨B, e, pw_cell_below hb hc⟩)
    | (obtain ⟨hj, B, e, hc⟩ := h; exact ⟨hj, B, e, pw_cell_below hb hc⟩)
theorem get_any (k : Nat) (p : PD) (g : Value) (i0 i1 i2 i3 i4 i5 i6 i7 i8 i9 : Int) (v : Int) (w : World) (hg : GetV w p g) (h : p.get k i0 i1 i2 i3 i4 i5 i6 i7 i8 i9 = some v) (hTab : TabW w) :
    (∃ f, g = .func (.func f) #[] #[] ∧ (∀ args W, (callFunc f args).run Tryd.prog W = .ok (.enter f args) W) ∧ ∀ W, Below w.heap.size w W → Calls Tryd.prog f #[.agg #[.int .i64 i0, .int .i64 i1, .int .i64 i2, .int .i64 i3, .int .i64 i4, .int .i64 i5, .int .u64 i6, .int .i64 i7, .int .i64 i8, .int .i64 i9]] W fun e w' => e = .returned (.int .i64 v) ∧ Below W.heap.size W w') ∨
    (∃ f q, g = .func (.func f) #[] #[q] ∧ (∀ args W, (callFunc f args).run Tryd.prog W = .ok (.enter f args) W) ∧ ∀ W, Below w.heap.size w W → Calls Tryd.prog f #[.agg #[.int .i64 i0, .int .i64 i1, .int .i64 i2, .int .i64 i3, .int .i64 i4, .int .i64 i5, .int .u64 i6, .int .i64 i7, .int .i64 i8, .int .i64 i9], q] W fun e w' => e = .returned (.int .i64 v) ∧ Below W.heap.size W w') := by
  cases p <;> simp only [GetV] at hg <;> simp only [PD.get] at h
  · subst hg
    obtain rfl := Option.some.inj h
    exact .inl ⟨_, rfl, enters_ Tryd.func60 (by kernel_rfl) rfl, fun W _ => get_d i0 i1 i2 i3 i4 i5 i6 i7 i8 i9 W⟩
  · subst hg
    obtain rfl := Option.some.inj h
    exact .inl ⟨_, rfl, enters_ Tryd.func66 (by kernel_rfl) rfl, fun W _ => get_n i0 i1 i2 i3 i4 i5 i6 i7 i8 i9 W⟩
  · subst hg
    obtain rfl := Option.some.inj h
    exact .inl ⟨_, rfl, enters_ Tryd.func74 (by kernel_rfl) rfl, fun W _ => get_m i0 i1 i2 i3 i4 i5 i6 i7 i8 i9 W⟩
  · subst hg
    obtain rfl := Option.some.inj h
    exact .inl ⟨_, rfl, enters_ Tryd.func78 (by kernel_rfl) rfl, fun W _ => get_a i0 i1 i2 i3 i4 i5 i6 i7 i8 i9 W⟩
  · split at h
    · cases h
    · obtain ⟨B, rfl, hc⟩ := hg
      obtain rfl := Option.some.inj h
      exact .inr ⟨_, _, rfl, enters_ Tryd.func62 (by kernel_rfl) rfl, fun W hW => get_imm i0 i1 i2 i3 i4 i5 i6 i7 i8 i9 _ B W (by assumption) (pw_cell_below hW hc)⟩
  · split at h
    · cases h
    · obtain ⟨B, rfl, hc⟩ := hg
      obtain rfl := Option.some.inj h
      exact .inr ⟨_, _, rfl, enters_ Tryd.func64 (by kernel_rfl) rfl, fun W hW => get_amt i0 i1 i2 i3 i4 i5 i6 i7 i8 i9 _ B W (by assumption) (pw_cell_below hW hc)⟩
  · subst hg
    obtain rfl := Option.some.inj h
    exact .inl ⟨_, rfl, enters_ Tryd.func76 (by kernel_rfl) rfl, fun W _ => get_sh i0 i1 i2 i3 i4 i5 i6 i7 i8 i9 W⟩
  · subst hg
    obtain rfl := Option.some.inj h
    exact .inl ⟨_, rfl, enters_ Tryd.func84 (by kernel_rfl) rfl, fun W _ => get_cond i0 i1 i2 i3 i4 i5 i6 i7 i8 i9 W⟩
  · subst hg
    obtain rfl := Option.some.inj h
    exact .inl ⟨_, rfl, enters_ Tryd.func80 (by kernel_rfl) rfl, fun W _ => get_lo i0 i1 i2 i3 i4 i5 i6 i7 i8 i9 W⟩
  · subst hg
    obtain rfl := Option.some.inj h
    exact .inl ⟨_, rfl, enters_ Tryd.func82 (by kernel_rfl) rfl, fun W _ => get_hi i0 i1 i2 i3 i4 i5 i6 i7 i8 i9 W⟩
  · obtain ⟨hj, B, rfl, hc⟩ := hg
    obtain ⟨⟨t0, t1, t2, t3⟩, hm, h⟩ := Option.bind_eq_some_iff.mp h
    simp only at h
    split at h
    · obtain rfl := Option.some.inj h
      obtain rfl : t3 = 0 := by assumption
      exact .inr ⟨_, _, rfl, enters_ Tryd.func69 (by kernel_rfl) rfl, fun W hW => get_mk i0 i1 i2 i3 i4 i5 i6 i7 i8 i9 _ hj B k t0 t1 t2 W (pw_cell_below hW hc) hm (hTab.below hW)⟩
    · cases h
theorem bcell_ {W w1 : World} (hb : Below W.heap.size W w1) : (∀ b o, b < W.heap.size → w1.cell? ⟨b, o, none⟩ = W.cell? ⟨b, o, none⟩) ∧ (∀ b o, b < W.heap.size → w1.frozen? ⟨b, o, none⟩ = W.frozen? ⟨b, o, none⟩) :=
  ⟨fun b o h => hb.cell (p := ⟨b, o, none⟩) h, fun b o h => hb.frozen (p := ⟨b, o, none⟩) h⟩
/-- The field that it makes. -/
def PD.fieldV (k : Nat) (p : PD) (i0 i1 i2 i3 i4 i5 i6 i7 i8 i9 : Int) : Option Int := (p.get k i0 i1 i2 i3 i4 i5 i6 i7 i8 i9).bind fun v => if p.sg_ = true then (bits_Pack.f k v p.n_).bind fun q => if q.2 = 0 then some q.1 else none else some (v % 4294967296)
set_option maxHeartbeats 4000000 in
theorem code_part_field.calls (k : Nat) (p : PD) (g : Value) (pf : Nat) (pc : Array Value) (i0 i1 i2 i3 i4 i5 i6 i7 i8 i9 : Int) (u : Int) (w : World) (hg : GetV w p g) (h : p.fieldV k i0 i1 i2 i3 i4 i5 i6 i7 i8 i9 = some u) (hTab : TabW w) :
    Calls Tryd.prog 26 #[.agg #[.int .i64 p.at_, .int .i64 p.n_, g, .func (.func pf) #[] pc, .bool p.sg_], .agg #[.int .i64 i0, .int .i64 i1, .int .i64 i2, .int .i64 i3, .int .i64 i4, .int .i64 i5, .int .u64 i6, .int .i64 i7, .int .i64 i8, .int .i64 i9]] w fun e w' => e = .returned (.agg #[.int .i64 p.at_, .int .i64 p.n_, .int .u32 u]) ∧ Below w.heap.size w w' := by
  unfold PD.fieldV at h
  obtain ⟨v, hv, h⟩ := Option.bind_eq_some_iff.mp h
  have hget := get_any k p g i0 i1 i2 i3 i4 i5 i6 i7 i8 i9 v w hg hv hTab
  clear hg hv
  have hBa : ∀ o1 o2 o3 : Obj, Below w.heap.size w (((w.alloc o1).alloc o2).alloc o3) := fun o1 o2 o3 => below_alloc (below_alloc (below_alloc (Below.refl _ _) _) _) _
  generalize p.at_ = at_ at *
  generalize p.n_ = n_ at *
  generalize p.sg_ = sg at *
  cases sg with
  | false =>
    rw [if_neg (by decide)] at h
    obtain rfl := Option.some.inj h
    clear h
    rcases hget with ⟨f, rfl, eg, hc⟩ | ⟨f, q, rfl, eg, hc⟩
    all_goals
      have HC := Aside0.mk hc
      clear hc
      have HBA := Aside0.mk hBa
      clear hBa
      go_enter Tryd.func26, Tryd.ntmps26
      go_wp2
      refine (HC.out _ (HBA.out _ _ _)).mono ?_
      rintro e w1 ⟨rfl, hb1⟩
      have hz : w.heap.size + 2 < w1.heap.size := by have := hb1.size; simp at this; omega
      obtain ⟨hc1, hf1⟩ := bcell_ hb1
      have HB := Aside0.mk (below_step (HBA.out _ _ _) hb1)
      clear hb1
      go_wp2
      refine bodyPost_ret (v := .agg #[.int .i64 at_, .int .i64 n_, .int .u32 (v % 4294967296)]) (by simp [results, Tryd.results26, go_sem, hc1, hz]) rfl ⟨rfl, ?_⟩
      exact Below.setCell (Below.setCell (Below.setCell HB.out (by simp; omega) _) (by simp; omega) _) (by simp; omega) _
  | true =>
    rw [if_pos rfl] at h
    obtain ⟨⟨u1, u2⟩, hp, h⟩ := Option.bind_eq_some_iff.mp h
    simp only at h
    split at h
    next h0 =>
      subst h0
      obtain rfl := Option.some.inj h
      clear h
      have HP := Aside0.mk hp
      clear hp
      rcases hget with ⟨f, rfl, eg, hc⟩ | ⟨f, q, rfl, eg, hc⟩
      all_goals
        have HC := Aside0.mk hc
        clear hc
        have HBA := Aside0.mk hBa
        clear hBa
        go_enter Tryd.func26, Tryd.ntmps26
        go_wp2
        refine (HC.out _ (HBA.out _ _ _)).mono ?_
        rintro e w1 ⟨rfl, hb1⟩
        have hz : w.heap.size + 2 < w1.heap.size := by have := hb1.size; simp at this; omega
        obtain ⟨hc1, hf1⟩ := bcell_ hb1
        have HB := Aside0.mk (below_step (HBA.out _ _ _) hb1)
        clear hb1
        go_wp2_with (first | (go_at_call 54; refine (bits_Pack.calls _ _ _ _ _ _ HP.out).mono ?_; rintro e w2 ⟨rfl, hd⟩; obtain ⟨n2, rfl⟩ := hd.out; clear hd) | (go_at_call 34; refine (code_must.ok _).mono ?_; rintro e w3 ⟨rfl, rfl⟩))
        refine bodyPost_ret (v := .agg #[.int .i64 at_, .int .i64 n_, .int .u32 u1]) (by simp [results, Tryd.results26, go_sem, hc1, hz]) rfl ⟨rfl, ?_⟩
        exact Below.setCell (Below.setCell (Below.setCell (pw_below_drewN HB.out _) (by simp; omega) _) (by simp; omega) _) (by simp; omega) _
    next => cases h

/-! ### bits_right: function 36 -/
def bits_right.f (a0 : Int) (a1 : Int) : Option (Bool) := if a0 ≥ 0 then (if a0 < 32 then (if a1 ≥ 1 then (some (decide (a1 ≤ (wrap64 (32 - a0))))) else (some false)) else (some false)) else (some false)
set_option maxHeartbeats 8000000 in
set_option maxRecDepth 100000 in
theorem bits_right.calls (a0 : Int) (a1 : Int) (r : Bool) (w : World) (h : bits_right.f a0 a1 = some r) :
    Calls Tryd.prog 36 #[.int .i64 a0, .int .i64 a1] w fun e w' => e = .returned (.bool r) ∧ Drawn0 w w' := by
 have H : (if a0 ≥ 0 then (if a0 < 32 then (if a1 ≥ 1 then (some (decide (a1 ≤ (wrap64 (32 - a0))))) else (some false)) else (some false)) else (some false)) = some r := h
 clear h
 by_cases c3 : a0 ≥ 0
 ·
  rw [if_pos c3] at H
  have c3b0 : decide (0 ≤ a0) = true := decide_eq_true c3
  clear c3
  by_cases c4 : a0 < 32
  ·
   rw [if_pos c4] at H
   have c4b0 : decide (a0 < 32) = true := decide_eq_true c4
   clear c4
   by_cases c5 : a1 ≥ 1
   ·
    rw [if_pos c5] at H
    have c5b0 : decide (1 ≤ a1) = true := decide_eq_true c5
    clear c5
    obtain rfl := Option.some.inj H
    go_enter Tryd.func36, Tryd.ntmps36
    go_wp2
    go_ret
    exact ⟨by first | rfl | (simp; done) | (simp [*]; done), by repeat (first | exact Drawn0.refl _ | apply Drawn0.step)⟩
   ·
    rw [if_neg c5] at H
    have c5b0 : decide (1 ≤ a1) = false := decide_eq_false c5
    clear c5
    obtain rfl := Option.some.inj H
    go_enter Tryd.func36, Tryd.ntmps36
    go_wp2
    go_ret
    exact ⟨by first | rfl | (simp; done) | (simp [*]; done), by repeat (first | exact Drawn0.refl _ | apply Drawn0.step)⟩
  ·
   rw [if_neg c4] at H
   have c4b0 : decide (a0 < 32) = false := decide_eq_false c4
   clear c4
   obtain rfl := Option.some.inj H
   go_enter Tryd.func36, Tryd.ntmps36
   go_wp2
   go_ret
   exact ⟨by first | rfl | (simp; done) | (simp [*]; done), by repeat (first | exact Drawn0.refl _ | apply Drawn0.step)⟩
 ·
  rw [if_neg c3] at H
  have c3b0 : decide (0 ≤ a0) = false := decide_eq_false c3
  clear c3
  obtain rfl := Option.some.inj H
  go_enter Tryd.func36, Tryd.ntmps36
  go_wp2
  go_ret
  exact ⟨by first | rfl | (simp; done) | (simp [*]; done), by repeat (first | exact Drawn0.refl _ | apply Drawn0.step)⟩

-- NOT PRINTED: function 98 (api_Field_98)

/-! ### api_Field_86: function 86 -/
/-- Is what is in a field too great for its bits? (bits.Word's own question) -/
def bits_big (f : S60) : Option Bool := (bits_ones.f f.f1).bind fun r => some (decide (IntKind.u64.wrap f.f2 > r))
def bits_anyBig : List S60 → Option Bool
  | [] => some false
  | f :: l => (bits_big f).bind fun b => if b = true then some true else bits_anyBig l
def api_Field_86.f (l0 : List S60) : Option Bool := bits_anyBig l0
set_option maxHeartbeats 8000000 in
theorem bits_big.calls (f : S60) (r : Bool) (w : World) (h : bits_big f = some r) :
    Calls Tryd.prog 87 #[.agg #[.int .i64 f.f0, .int .i64 f.f1, .int .u32 f.f2]] w fun e w' => e = .returned (.bool r) ∧ Below w.heap.size w w' := by
  obtain ⟨r1, h1, h2⟩ := Option.bind_eq_some_iff.mp h
  obtain rfl := Option.some.inj h2
  clear h h2
  have HH := Aside0.mk h1
  clear h1
  go_enter Tryd.func87, Tryd.ntmps87
  go_wp2
  go_quiet ((go_at_call 37; refine quiet_drawn (bits_ones.calls _ _ _ HH.out)))
  go_wp2
  go_ret
  exact ⟨rfl, by repeat (first | exact Below.refl _ _ | apply below_drew | apply pw_below_drewN | apply below_alloc)⟩
def IdxPost (r : Bool) (w : World) (e : Ending) (w' : World) : Prop := ∃ i : Int, e = .returned (.int .i64 i) ∧ decide (0 ≤ i) = r ∧ Below w.heap.size w w'
theorem anyBig_at (l : List S60) (k : Nat) (h : k < l.length) : bits_anyBig (l.drop k) = (bits_big (rd_T60 l k)).bind fun b => if b = true then some true else bits_anyBig (l.drop (k + 1)) := by
  have e : rd_T60 l (k : Int) = l[k] := by unfold rd_T60; rw [Int.toNat_natCast]; simp [List.getD, h]
  rw [List.drop_eq_getElem_cons h, e]; rfl
set_option maxHeartbeats 8000000 in
theorem bits_index.calls (A0 : Option Addr) (c0 : Nat) (l0 : List S60) (r : Bool) (w : World) (hr0 : Kd.C k60 w A0 l0.length l0) (h : bits_anyBig l0 = some r) :
    Calls Tryd.prog 98 #[.slice A0 l0.length c0, .func (.func 87) #[] #[]] w (IdxPost r w) := by
  have hm := Kd.C_max hr0
  have HR := Aside0.mk hr0
  clear hr0
  have HH := Aside0.mk h
  clear h
  go_enter Tryd.func98, Tryd.ntmps98
  go_wp2
  go_loopw [8] (fun v8 wr => ∃ k : Nat, k ≤ l0.length ∧ v8 = .int .i64 k ∧ Aside0 (bits_anyBig (l0.drop k) = some r) ∧ Below w.heap.size w wr) (fun v8 _ => l0.length - (intOf v8).toNat)
  case atStart => exact ⟨0, Nat.zero_le _, rfl, HH, Below.refl _ _⟩
  case round =>
    obtain ⟨k, hk, rfl, HA, hb⟩ := hrel
    by_cases hlt : k < l0.length
    · have H := HA.out
      rw [anyBig_at l0 k hlt] at H
      obtain ⟨b, h1, h2⟩ := Option.bind_eq_some_iff.mp H
      clear H HA
      obtain ⟨ad, e1, hx0, hx1, hx2⟩ := at_T60 (Kd.C_below HR.out hb) (k : Int) (by omega) (by omega)
      cases e1
      rw [Int.toNat_natCast] at hx0 hx1 hx2
      have HB1 := Aside0.mk h1
      have HB2 := Aside0.mk h2
      clear h1 h2
      cases b
      · go_wp2_with (first | (go_at_call 87; refine (bits_big.calls (rd_T60 l0 k) false _ HB1.out).mono ?_; rintro e w1 ⟨rfl, hb1⟩))
        go_roundw
        case rel => exact ⟨k + 1, by omega, by go_num, ⟨by simpa using HB2.out⟩, below_then hb hb.size hb1⟩
        case measure => simp [intOf]; omega
      · have hr : r = true := by simpa using HB2.out.symm
        go_wp2_with (first | (go_at_call 87; refine (bits_big.calls (rd_T60 l0 k) true _ HB1.out).mono ?_; rintro e w1 ⟨rfl, hb1⟩))
        go_ret
        exact ⟨(k : Int), rfl, by rw [hr]; simp, below_then hb hb.size hb1⟩
    · have hr : r = false := by
        have H := HA.out
        rw [List.drop_of_length_le (by omega)] at H
        simpa [bits_anyBig] using H.symm
      go_wp2
      go_ret
      exact ⟨-1, rfl, by rw [hr]; simp, hb⟩
set_option maxHeartbeats 8000000 in
theorem api_Field_86.calls (A0 : Option Addr) (c0 : Nat) (l0 : List S60) (r : Bool) (w : World) (hr0 : Kd.C k60 w A0 l0.length l0) (hc0 : l0.length ≤ c0) (h : api_Field_86.f l0 = some r) :
    Calls Tryd.prog 86 #[.slice A0 l0.length c0, .func (.func 87) #[] #[]] w fun e w' => e = .returned (.bool r) ∧ Below w.heap.size w w' := by
  have HR := Aside0.mk hr0
  clear hr0
  have HH := Aside0.mk h
  clear h
  go_enter Tryd.func86, Tryd.ntmps86
  go_wp2_with (first | (go_at_call 98; refine (bits_index.calls A0 c0 l0 r _ HR.out HH.out).mono ?_; rintro e w1 ⟨i, rfl, hi, hb⟩))
  go_ret
  exact ⟨by rw [← hi]; rfl, hb⟩

/-! ### bits_Word: function 55 -/
mutual
def bits_Word.l0 : Nat → List (S60) → Int → List (S60) → Int → Int → Option (Int × Int)
 | 0, _, _, _, _, _ => none
 | k + 1, x0, x4, x10, x11, x12 => if x12 < x11 then (if 0 ≤ x12 then (if x12 < (x10.length : Int) then ((bits_right.f ((rd_T60 x10 x12).f0) ((rd_T60 x10 x12).f1)).bind fun t151 => (if t151 = true then ((bits_ones.f ((rd_T60 x10 x12).f1)).bind fun t152 => (if 0 ≤ ((rd_T60 x10 x12).f0) then (if (Go.bits .and .u64 x4 (shl .u64 t152 ((rd_T60 x10 x12).f0))) = 0 then (bits_Word.l0 k x0 (Go.bits .or .u64 x4 (shl .u64 t152 ((rd_T60 x10 x12).f0))) x10 x11 (wrap64 (x12 + 1))) else (some (0, 1))) else (none))) else (some (0, 1)))) else (none)) else (none)) else ((api_Field_86.f x0).bind fun t153 => (if t153 = true then (some (0, 4)) else (bits_Word.l1 k 0 x0 (x0.length : Int) 0)))
def bits_Word.l1 : Nat → Int → List (S60) → Int → Int → Option (Int × Int)
 | 0, _, _, _, _ => none
 | k + 1, x7, x44, x45, x46 => if x46 < x45 then (if 0 ≤ x46 then (if x46 < (x44.length : Int) then (if 0 ≤ ((rd_T60 x44 x46).f0) then (bits_Word.l1 k (Go.bits .or .u32 x7 (shl .u32 ((rd_T60 x44 x46).f2) ((rd_T60 x44 x46).f0))) x44 x45 (wrap64 (x46 + 1))) else (none)) else (none)) else (none)) else (some (x7, 0))
end
def bits_Word.f (k : Nat) (l0 : List (S60)) : Option (Int × Int) := bits_Word.l0 k l0 0 l0 (l0.length : Int) 0
theorem bits_Word.mono_l : ∀ k, (∀ y0 y1 y2 y3 y4, LeO (bits_Word.l0 k y0 y1 y2 y3 y4) (bits_Word.l0 (k + 1) y0 y1 y2 y3 y4)) ∧ (∀ y0 y1 y2 y3, LeO (bits_Word.l1 k y0 y1 y2 y3) (bits_Word.l1 (k + 1) y0 y1 y2 y3))
 | 0 => ⟨fun _ _ _ _ _ r h => by simp [bits_Word.l0] at h, fun _ _ _ _ r h => by simp [bits_Word.l1] at h⟩
 | k + 1 => by
  obtain ⟨ih0, ih1⟩ := bits_Word.mono_l k
  refine ⟨?_, ?_⟩
  ·
   intro y0 y1 y2 y3 y4
   unfold bits_Word.l0
   repeat' first
   | (with_reducible exact ih0 _ _ _ _ _)
   | (with_reducible exact ih1 _ _ _ _)
   | (with_reducible exact LeO.refl _)
   | (with_reducible exact LeO.none _)
   | (with_reducible refine LeO.ite ?_ ?_)
   | (with_reducible refine LeO.bind ?_ (fun _ => ?_))
   | exact ih0 _ _ _ _ _
   | exact ih1 _ _ _ _
   | exact LeO.none _
   | refine LeO.ite ?_ ?_
   | refine LeO.bind ?_ (fun _ => ?_)
  ·
   intro y0 y1 y2 y3
   unfold bits_Word.l1
   repeat' first
   | (with_reducible exact ih0 _ _ _ _ _)
   | (with_reducible exact ih1 _ _ _ _)
   | (with_reducible exact LeO.refl _)
   | (with_reducible exact LeO.none _)
   | (with_reducible refine LeO.ite ?_ ?_)
   | (with_reducible refine LeO.bind ?_ (fun _ => ?_))
   | exact ih0 _ _ _ _ _
   | exact ih1 _ _ _ _
   | exact LeO.none _
   | refine LeO.ite ?_ ?_
   | refine LeO.bind ?_ (fun _ => ?_)
theorem bits_Word.mono : ∀ a0 k, LeO (bits_Word.f k a0) (bits_Word.f (k + 1) a0) := by
 intro a0 k
 obtain ⟨ih0, ih1⟩ := bits_Word.mono_l k
 unfold bits_Word.f
 repeat' first
   | (with_reducible exact ih0 _ _ _ _ _)
   | (with_reducible exact ih1 _ _ _ _)
   | (with_reducible exact LeO.refl _)
   | (with_reducible exact LeO.none _)
   | (with_reducible refine LeO.ite ?_ ?_)
   | (with_reducible refine LeO.bind ?_ (fun _ => ?_))
   | exact ih0 _ _ _ _ _
   | exact ih1 _ _ _ _
   | exact LeO.none _
   | refine LeO.ite ?_ ?_
   | refine LeO.bind ?_ (fun _ => ?_)
set_option maxHeartbeats 8000000 in
set_option maxRecDepth 100000 in
theorem bits_Word.calls (k : Nat) (A0 : Option Addr) (c0 : Nat) (l0 : List (S60)) (r1 : Int) (r2 : Int) (w : World) (hr0 : Kd.C k60 w A0 l0.length l0) (hc0 : l0.length ≤ c0) (h : bits_Word.f k l0 = some (r1, r2)) :
    Calls Tryd.prog 55 #[.slice A0 l0.length c0] w fun e w' => e = .returned (.tuple #[.int .u32 r1, .int .i64 r2]) ∧ Below w.heap.size w w' := by
 have hu60 := Tryd.underlying60
 have HR0 := Aside0.mk hr0
 have HC0 := Aside0.mk hc0
 clear hr0 hc0
 have HB := Aside0.mk (Below.refl w.heap.size w)
 have H : (bits_Word.l0 k l0 0 l0 (l0.length : Int) 0) = some (r1, r2) := h
 clear h
 have H' := Aside0.mk H
 clear H
 go_enter Tryd.func55, Tryd.ntmps55
 go_wp2
 repeat (go_quiet (fail); try go_wp2)
 go_loopg [4, 12] k (fun kq v4 v12 w' => ∃ (x4_1 : Int) (x12_1 : Int), v4 = .int .u64 x4_1 ∧ v12 = .int .i64 x12_1 ∧ Aside0 (bits_Word.l0 kq l0 x4_1 l0 (l0.length : Int) x12_1 = some (r1, r2)) ∧ Aside0 (kq ≤ k) ∧ Aside0 (Below w.heap.size w w'))
 case atStart => exact ⟨(0), (0), (by first | rfl | (simp; done) | (simp [*]; done)), (by first | rfl | (simp; done) | (simp [*]; done)), H', ⟨Nat.le_refl _⟩, ⟨by repeat (first | (with_reducible first | exact HB.out | apply below_alloc | apply pw_below_drewN | apply below_drew1) | exact HB.out)⟩⟩
 case round =>
  clear H'
  obtain ⟨x4_1, x12_1, rfl, rfl, HA, HK1, HB⟩ := hrel
  cases gk with
  | zero => exact absurd HA.out (by simp [bits_Word.l0])
  | succ k1 =>
   have H := HA.out
   clear HA
   simp only [bits_Word.l0] at H
   by_cases c2 : x12_1 < (l0.length : Int)
   ·
    rw [if_pos c2] at H
    have c2b0 : decide (x12_1 < (l0.length : Int)) = true := decide_eq_true c2
    clear c2
    by_cases c3 : 0 ≤ x12_1
    ·
     rw [if_pos c3] at H
     have c3b0 : decide (0 ≤ x12_1) = true := decide_eq_true c3
     clear c3
     by_cases c4 : x12_1 < (l0.length : Int)
     ·
      rw [if_pos c4] at H
      have c4b0 : decide (x12_1 < (l0.length : Int)) = true := decide_eq_true c4
      clear c4
      replace H := Option.bind_eq_some_iff.mp H
      obtain ⟨t151, A50, H⟩ := H
      replace H : (if t151 = true then ((bits_ones.f ((rd_T60 l0 x12_1).f1)).bind fun t152 => (if 0 ≤ ((rd_T60 l0 x12_1).f0) then (if (Go.bits .and .u64 x4_1 (shl .u64 t152 ((rd_T60 l0 x12_1).f0))) = 0 then (bits_Word.l0 k1 l0 (Go.bits .or .u64 x4_1 (shl .u64 t152 ((rd_T60 l0 x12_1).f0))) l0 (l0.length : Int) (wrap64 (x12_1 + 1))) else (some (0, 1))) else (none))) else (some (0, 1))) = some (r1, r2) := H
      have A5 := Aside0.mk A50
      clear A50
      by_cases c6 : t151 = true
      ·
       subst c6
       have H1 : ((bits_ones.f ((rd_T60 l0 x12_1).f1)).bind fun t152 => (if 0 ≤ ((rd_T60 l0 x12_1).f0) then (if (Go.bits .and .u64 x4_1 (shl .u64 t152 ((rd_T60 l0 x12_1).f0))) = 0 then (bits_Word.l0 k1 l0 (Go.bits .or .u64 x4_1 (shl .u64 t152 ((rd_T60 l0 x12_1).f0))) l0 (l0.length : Int) (wrap64 (x12_1 + 1))) else (some (0, 1))) else (none))) = some (r1, r2) := by rw [if_pos rfl] at H; exact H
       clear H
       have H := H1
       clear H1
       replace H := Option.bind_eq_some_iff.mp H
       obtain ⟨t152, A70, H⟩ := H
       replace H : (if 0 ≤ ((rd_T60 l0 x12_1).f0) then (if (Go.bits .and .u64 x4_1 (shl .u64 t152 ((rd_T60 l0 x12_1).f0))) = 0 then (bits_Word.l0 k1 l0 (Go.bits .or .u64 x4_1 (shl .u64 t152 ((rd_T60 l0 x12_1).f0))) l0 (l0.length : Int) (wrap64 (x12_1 + 1))) else (some (0, 1))) else (none)) = some (r1, r2) := H
       have A7 := Aside0.mk A70
       clear A70
       by_cases c8 : 0 ≤ ((rd_T60 l0 x12_1).f0)
       ·
        rw [if_pos c8] at H
        have c8b0 := eq_true c8
        have c8b1 : decide (0 ≤ ((rd_T60 l0 x12_1).f0)) = true := decide_eq_true c8
        clear c8
        obtain ⟨ji9, hji9⟩ : ∃ j_ : Int, (shl .u64 t152 ((rd_T60 l0 x12_1).f0)) = j_ := ⟨_, rfl⟩
        replace H : (if (Go.bits .and .u64 x4_1 (ji9)) = 0 then (bits_Word.l0 k1 l0 (Go.bits .or .u64 x4_1 (ji9)) l0 (l0.length : Int) (wrap64 (x12_1 + 1))) else (some (0, 1))) = some (r1, r2) := by first | (rw [hji9] at H; exact H) | (simp only [hji9] at H ⊢; exact H)
        (try rw [hji9] at A5)
        (try rw [hji9] at A7)
        have hji9_ : (IntKind.u64.wrap (t152 * 2 ^ min ((rd_T60 l0 x12_1).f0).toNat 64)) = ji9 := hji9
        have hji9z : ((rd_T60 l0 x12_1).f0) ≤ 64 → (IntKind.u64.wrap (t152 * 2 ^ ((rd_T60 l0 x12_1).f0).toNat)) = ji9 := shl_small hji9
        by_cases c10 : (Go.bits .and .u64 x4_1 (ji9)) = 0
        ·
         rw [if_pos c10] at H
         have c10b0 : ((Go.bits .and .u64 x4_1 (ji9)) == 0) = true := beq_iff_eq.mpr c10
         have c10b1 : ((Go.bits .and .u64 x4_1 (ji9)) != 0) = false := bne_eq_false_iff_eq.mpr c10
         clear c10
         have c11b0 := eq_true (of_decide_eq_true (by first | (with_reducible assumption) | assumption) : 0 ≤ ((rd_T60 l0 x12_1).f0))
         have H' := Aside0.mk H
         clear H
         have p149 : 0 ≤ (x12_1 : Int) := of_decide_eq_true (by first | (with_reducible assumption) | assumption)
         have q149 : x12_1 < (l0.length : Int) := of_decide_eq_true (by first | (with_reducible assumption) | assumption)
         obtain ⟨ad149, e149, hx149_0, hx149_1, hx149_2⟩ := at_T60 HR0.out x12_1 p149 q149
         cases e149
         replace hx149_0 := (HB.out.cell (World.block_lt_of_cell? w _ hx149_0)).trans hx149_0
         replace hx149_1 := (HB.out.cell (World.block_lt_of_cell? w _ hx149_1)).trans hx149_1
         replace hx149_2 := (HB.out.cell (World.block_lt_of_cell? w _ hx149_2)).trans hx149_2
         replace p149 := eq_true p149
         replace q149 := eq_true q149
         go_wp2_with (first | ((with_reducible refine gate_dst (N := 6) rfl ?_); refine box_event ?hg (N := 6) ?hd (cs := #[.int .i64 0, .int .i64 0, .int .u32 0]) (t := 60) ?hr ?_; (case hd => rfl); (case hg => rfl); (case hr => first | (go_simp; done) | (go_simp; rfl)); intro gb150 hg w12 hbox hb; have n0_ := Aside0.mk (below_step (by repeat (first | (with_reducible first | exact HB.out | apply below_alloc | apply pw_below_drewN | apply below_drew1) | exact HB.out)) hb); have n1_ := Aside0.mk (hbox); have n2_ := Aside0.mk ((by rw [hg]; exact (below_size (by repeat (first | (with_reducible first | exact HB.out | apply below_alloc | apply pw_below_drewN | apply below_drew1) | exact HB.out))) : w.heap.size ≤ gb150)); have n3_ := Aside0.mk ((by rw [hg]; exact (below_size (by repeat (first | (with_reducible first | exact HB.out | apply below_alloc | apply pw_below_drewN | apply below_drew1) | exact HB.out))) : w.heap.size ≤ gb150)); clear HB; have HB := n0_; have BK150 := n1_; have GW150 := n2_; have GE150 := n3_; clear n0_ n1_ n2_ n3_; clear hb hbox hg; obtain ⟨hcz13_0, hcz13_1, hcz13_2⟩ := cells3_ BK150.out; have hfz13_0 := fun j => blk_frozen BK150.out j) | (go_at_call 36; (with_reducible refine (bits_right.calls ((rd_T60 l0 x12_1).f0) ((rd_T60 l0 x12_1).f1) true _ A5.out).mono ?_); rintro e w' ⟨rfl, ⟨nd, rfl⟩⟩; (try first | exact ⟨rfl, _, World.drewN_drewN _ _ _⟩ | exact ⟨rfl, _, Eq.trans (World.drewN_drewN _ _ _) (congrArg (World.drewN _) (Nat.add_assoc _ _ _))⟩)) | (go_at_call 37; (with_reducible refine (bits_ones.calls ((rd_T60 l0 x12_1).f1) t152 _ A7.out).mono ?_); rintro e w' ⟨rfl, ⟨nd, rfl⟩⟩; (try first | exact ⟨rfl, _, World.drewN_drewN _ _ _⟩ | exact ⟨rfl, _, Eq.trans (World.drewN_drewN _ _ _) (congrArg (World.drewN _) (Nat.add_assoc _ _ _))⟩)))
         repeat (go_quiet (first | ((with_reducible refine gate_dst (N := 6) rfl ?_); refine box_event ?hg (N := 6) ?hd (cs := #[.int .i64 0, .int .i64 0, .int .u32 0]) (t := 60) ?hr ?_; (case hd => rfl); (case hg => rfl); (case hr => first | (go_simp; done) | (go_simp; rfl)); intro gb150 hg w12 hbox hb; have n0_ := Aside0.mk (below_step (by repeat (first | (with_reducible first | exact HB.out | apply below_alloc | apply pw_below_drewN | apply below_drew1) | exact HB.out)) hb); have n1_ := Aside0.mk (hbox); have n2_ := Aside0.mk ((by rw [hg]; exact (below_size (by repeat (first | (with_reducible first | exact HB.out | apply below_alloc | apply pw_below_drewN | apply below_drew1) | exact HB.out))) : w.heap.size ≤ gb150)); have n3_ := Aside0.mk ((by rw [hg]; exact (below_size (by repeat (first | (with_reducible first | exact HB.out | apply below_alloc | apply pw_below_drewN | apply below_drew1) | exact HB.out))) : w.heap.size ≤ gb150)); clear HB; have HB := n0_; have BK150 := n1_; have GW150 := n2_; have GE150 := n3_; clear n0_ n1_ n2_ n3_; clear hb hbox hg; obtain ⟨hcz13_0, hcz13_1, hcz13_2⟩ := cells3_ BK150.out; have hfz13_0 := fun j => blk_frozen BK150.out j) | (go_at_call 36; (with_reducible refine (bits_right.calls ((rd_T60 l0 x12_1).f0) ((rd_T60 l0 x12_1).f1) true _ A5.out).mono ?_); rintro e w' ⟨rfl, ⟨nd, rfl⟩⟩; (try first | exact ⟨rfl, _, World.drewN_drewN _ _ _⟩ | exact ⟨rfl, _, Eq.trans (World.drewN_drewN _ _ _) (congrArg (World.drewN _) (Nat.add_assoc _ _ _))⟩)) | (go_at_call 37; (with_reducible refine (bits_ones.calls ((rd_T60 l0 x12_1).f1) t152 _ A7.out).mono ?_); rintro e w' ⟨rfl, ⟨nd, rfl⟩⟩; (try first | exact ⟨rfl, _, World.drewN_drewN _ _ _⟩ | exact ⟨rfl, _, Eq.trans (World.drewN_drewN _ _ _) (congrArg (World.drewN _) (Nat.add_assoc _ _ _))⟩))); try go_wp2_with (first | ((with_reducible refine gate_dst (N := 6) rfl ?_); refine box_event ?hg (N := 6) ?hd (cs := #[.int .i64 0, .int .i64 0, .int .u32 0]) (t := 60) ?hr ?_; (case hd => rfl); (case hg => rfl); (case hr => first | (go_simp; done) | (go_simp; rfl)); intro gb150 hg w12 hbox hb; have n0_ := Aside0.mk (below_step (by repeat (first | (with_reducible first | exact HB.out | apply below_alloc | apply pw_below_drewN | apply below_drew1) | exact HB.out)) hb); have n1_ := Aside0.mk (hbox); have n2_ := Aside0.mk ((by rw [hg]; exact (below_size (by repeat (first | (with_reducible first | exact HB.out | apply below_alloc | apply pw_below_drewN | apply below_drew1) | exact HB.out))) : w.heap.size ≤ gb150)); have n3_ := Aside0.mk ((by rw [hg]; exact (below_size (by repeat (first | (with_reducible first | exact HB.out | apply below_alloc | apply pw_below_drewN | apply below_drew1) | exact HB.out))) : w.heap.size ≤ gb150)); clear HB; have HB := n0_; have BK150 := n1_; have GW150 := n2_; have GE150 := n3_; clear n0_ n1_ n2_ n3_; clear hb hbox hg; obtain ⟨hcz13_0, hcz13_1, hcz13_2⟩ := cells3_ BK150.out; have hfz13_0 := fun j => blk_frozen BK150.out j) | (go_at_call 36; (with_reducible refine (bits_right.calls ((rd_T60 l0 x12_1).f0) ((rd_T60 l0 x12_1).f1) true _ A5.out).mono ?_); rintro e w' ⟨rfl, ⟨nd, rfl⟩⟩; (try first | exact ⟨rfl, _, World.drewN_drewN _ _ _⟩ | exact ⟨rfl, _, Eq.trans (World.drewN_drewN _ _ _) (congrArg (World.drewN _) (Nat.add_assoc _ _ _))⟩)) | (go_at_call 37; (with_reducible refine (bits_ones.calls ((rd_T60 l0 x12_1).f1) t152 _ A7.out).mono ?_); rintro e w' ⟨rfl, ⟨nd, rfl⟩⟩; (try first | exact ⟨rfl, _, World.drewN_drewN _ _ _⟩ | exact ⟨rfl, _, Eq.trans (World.drewN_drewN _ _ _) (congrArg (World.drewN _) (Nat.add_assoc _ _ _))⟩))))
         go_roundg k1
         case measure => have := HK1.out; omega
         case rel => exact ⟨(Go.bits .or .u64 x4_1 (ji9)), (wrap64 (x12_1 + 1)), (by first | rfl | (simp; done) | (simp only [← hji9] <;> (first | rfl | simp)) | (simp [*]; done)), (by first | rfl | (simp; done) | (simp [*]; done)), H', ⟨by have := HK1.out; omega⟩, ⟨by repeat (first | (with_reducible first | exact HB.out | apply below_alloc | apply pw_below_drewN | apply below_drew1 | refine below_set ?_ GE150.out) | exact HB.out)⟩⟩
        ·
         rw [if_neg c10] at H
         have c10b0 : ((Go.bits .and .u64 x4_1 (ji9)) == 0) = false := beq_eq_false_iff_ne.mpr c10
         have c10b1 : ((Go.bits .and .u64 x4_1 (ji9)) != 0) = true := bne_iff_ne.mpr c10
         simp only [Option.some.injEq, Prod.mk.injEq] at H
         obtain ⟨rfl, rfl⟩ := H
         have p149 : 0 ≤ (x12_1 : Int) := of_decide_eq_true (by first | (with_reducible assumption) | assumption)
         have q149 : x12_1 < (l0.length : Int) := of_decide_eq_true (by first | (with_reducible assumption) | assumption)
         obtain ⟨ad149, e149, hx149_0, hx149_1, hx149_2⟩ := at_T60 HR0.out x12_1 p149 q149
         cases e149
         replace hx149_0 := (HB.out.cell (World.block_lt_of_cell? w _ hx149_0)).trans hx149_0
         replace hx149_1 := (HB.out.cell (World.block_lt_of_cell? w _ hx149_1)).trans hx149_1
         replace hx149_2 := (HB.out.cell (World.block_lt_of_cell? w _ hx149_2)).trans hx149_2
         replace p149 := eq_true p149
         replace q149 := eq_true q149
         go_wp2_with (first | ((with_reducible refine gate_dst (N := 6) rfl ?_); refine box_event ?hg (N := 6) ?hd (cs := #[.int .i64 0, .int .i64 0, .int .u32 0]) (t := 60) ?hr ?_; (case hd => rfl); (case hg => rfl); (case hr => first | (go_simp; done) | (go_simp; rfl)); intro gb150 hg w14 hbox hb; have n0_ := Aside0.mk (below_step (by repeat (first | (with_reducible first | exact HB.out | apply below_alloc | apply pw_below_drewN | apply below_drew1) | exact HB.out)) hb); have n1_ := Aside0.mk (hbox); have n2_ := Aside0.mk ((by rw [hg]; exact (below_size (by repeat (first | (with_reducible first | exact HB.out | apply below_alloc | apply pw_below_drewN | apply below_drew1) | exact HB.out))) : w.heap.size ≤ gb150)); have n3_ := Aside0.mk ((by rw [hg]; exact (below_size (by repeat (first | (with_reducible first | exact HB.out | apply below_alloc | apply pw_below_drewN | apply below_drew1) | exact HB.out))) : w.heap.size ≤ gb150)); clear HB; have HB := n0_; have BK150 := n1_; have GW150 := n2_; have GE150 := n3_; clear n0_ n1_ n2_ n3_; clear hb hbox hg; obtain ⟨hcz15_0, hcz15_1, hcz15_2⟩ := cells3_ BK150.out; have hfz15_0 := fun j => blk_frozen BK150.out j) | (go_at_call 36; (with_reducible refine (bits_right.calls ((rd_T60 l0 x12_1).f0) ((rd_T60 l0 x12_1).f1) true _ A5.out).mono ?_); rintro e w' ⟨rfl, ⟨nd, rfl⟩⟩; (try first | exact ⟨rfl, _, World.drewN_drewN _ _ _⟩ | exact ⟨rfl, _, Eq.trans (World.drewN_drewN _ _ _) (congrArg (World.drewN _) (Nat.add_assoc _ _ _))⟩)) | (go_at_call 37; (with_reducible refine (bits_ones.calls ((rd_T60 l0 x12_1).f1) t152 _ A7.out).mono ?_); rintro e w' ⟨rfl, ⟨nd, rfl⟩⟩; (try first | exact ⟨rfl, _, World.drewN_drewN _ _ _⟩ | exact ⟨rfl, _, Eq.trans (World.drewN_drewN _ _ _) (congrArg (World.drewN _) (Nat.add_assoc _ _ _))⟩)))
         repeat (go_quiet (first | ((with_reducible refine gate_dst (N := 6) rfl ?_); refine box_event ?hg (N := 6) ?hd (cs := #[.int .i64 0, .int .i64 0, .int .u32 0]) (t := 60) ?hr ?_; (case hd => rfl); (case hg => rfl); (case hr => first | (go_simp; done) | (go_simp; rfl)); intro gb150 hg w14 hbox hb; have n0_ := Aside0.mk (below_step (by repeat (first | (with_reducible first | exact HB.out | apply below_alloc | apply pw_below_drewN | apply below_drew1) | exact HB.out)) hb); have n1_ := Aside0.mk (hbox); have n2_ := Aside0.mk ((by rw [hg]; exact (below_size (by repeat (first | (with_reducible first | exact HB.out | apply below_alloc | apply pw_below_drewN | apply below_drew1) | exact HB.out))) : w.heap.size ≤ gb150)); have n3_ := Aside0.mk ((by rw [hg]; exact (below_size (by repeat (first | (with_reducible first | exact HB.out | apply below_alloc | apply pw_below_drewN | apply below_drew1) | exact HB.out))) : w.heap.size ≤ gb150)); clear HB; have HB := n0_; have BK150 := n1_; have GW150 := n2_; have GE150 := n3_; clear n0_ n1_ n2_ n3_; clear hb hbox hg; obtain ⟨hcz15_0, hcz15_1, hcz15_2⟩ := cells3_ BK150.out; have hfz15_0 := fun j => blk_frozen BK150.out j) | (go_at_call 36; (with_reducible refine (bits_right.calls ((rd_T60 l0 x12_1).f0) ((rd_T60 l0 x12_1).f1) true _ A5.out).mono ?_); rintro e w' ⟨rfl, ⟨nd, rfl⟩⟩; (try first | exact ⟨rfl, _, World.drewN_drewN _ _ _⟩ | exact ⟨rfl, _, Eq.trans (World.drewN_drewN _ _ _) (congrArg (World.drewN _) (Nat.add_assoc _ _ _))⟩)) | (go_at_call 37; (with_reducible refine (bits_ones.calls ((rd_T60 l0 x12_1).f1) t152 _ A7.out).mono ?_); rintro e w' ⟨rfl, ⟨nd, rfl⟩⟩; (try first | exact ⟨rfl, _, World.drewN_drewN _ _ _⟩ | exact ⟨rfl, _, Eq.trans (World.drewN_drewN _ _ _) (congrArg (World.drewN _) (Nat.add_assoc _ _ _))⟩))); try go_wp2_with (first | ((with_reducible refine gate_dst (N := 6) rfl ?_); refine box_event ?hg (N := 6) ?hd (cs := #[.int .i64 0, .int .i64 0, .int .u32 0]) (t := 60) ?hr ?_; (case hd => rfl); (case hg => rfl); (case hr => first | (go_simp; done) | (go_simp; rfl)); intro gb150 hg w14 hbox hb; have n0_ := Aside0.mk (below_step (by repeat (first | (with_reducible first | exact HB.out | apply below_alloc | apply pw_below_drewN | apply below_drew1) | exact HB.out)) hb); have n1_ := Aside0.mk (hbox); have n2_ := Aside0.mk ((by rw [hg]; exact (below_size (by repeat (first | (with_reducible first | exact HB.out | apply below_alloc | apply pw_below_drewN | apply below_drew1) | exact HB.out))) : w.heap.size ≤ gb150)); have n3_ := Aside0.mk ((by rw [hg]; exact (below_size (by repeat (first | (with_reducible first | exact HB.out | apply below_alloc | apply pw_below_drewN | apply below_drew1) | exact HB.out))) : w.heap.size ≤ gb150)); clear HB; have HB := n0_; have BK150 := n1_; have GW150 := n2_; have GE150 := n3_; clear n0_ n1_ n2_ n3_; clear hb hbox hg; obtain ⟨hcz15_0, hcz15_1, hcz15_2⟩ := cells3_ BK150.out; have hfz15_0 := fun j => blk_frozen BK150.out j) | (go_at_call 36; (with_reducible refine (bits_right.calls ((rd_T60 l0 x12_1).f0) ((rd_T60 l0 x12_1).f1) true _ A5.out).mono ?_); rintro e w' ⟨rfl, ⟨nd, rfl⟩⟩; (try first | exact ⟨rfl, _, World.drewN_drewN _ _ _⟩ | exact ⟨rfl, _, Eq.trans (World.drewN_drewN _ _ _) (congrArg (World.drewN _) (Nat.add_assoc _ _ _))⟩)) | (go_at_call 37; (with_reducible refine (bits_ones.calls ((rd_T60 l0 x12_1).f1) t152 _ A7.out).mono ?_); rintro e w' ⟨rfl, ⟨nd, rfl⟩⟩; (try first | exact ⟨rfl, _, World.drewN_drewN _ _ _⟩ | exact ⟨rfl, _, Eq.trans (World.drewN_drewN _ _ _) (congrArg (World.drewN _) (Nat.add_assoc _ _ _))⟩))))
         go_ret2
         exact ⟨by first | rfl | (simp [errW_none, errW_some] <;> rfl) | (simp only [← hji9]; first | rfl | (simp [errW_none, errW_some] <;> rfl)) | (simp [*, errW_none, errW_some] <;> rfl), by repeat (first | (with_reducible first | exact HB.out | apply below_alloc | apply pw_below_drewN | apply below_drew1 | refine below_set ?_ GE150.out) | exact HB.out)⟩
       ·
        rw [if_neg c8] at H
        exact absurd H (by simp)
      ·
       replace c6 := Bool.eq_false_iff.mpr c6
       subst c6
       have H1 : (some (0, 1)) = some (r1, r2) := by rw [if_neg (show ¬ (false = true) by decide)] at H; exact H
       clear H
       have H := H1
       clear H1
       simp only [Option.some.injEq, Prod.mk.injEq] at H
       obtain ⟨rfl, rfl⟩ := H
       have p149 : 0 ≤ (x12_1 : Int) := of_decide_eq_true (by first | (with_reducible assumption) | assumption)
       have q149 : x12_1 < (l0.length : Int) := of_decide_eq_true (by first | (with_reducible assumption) | assumption)
       obtain ⟨ad149, e149, hx149_0, hx149_1, hx149_2⟩ := at_T60 HR0.out x12_1 p149 q149
       cases e149
       replace hx149_0 := (HB.out.cell (World.block_lt_of_cell? w _ hx149_0)).trans hx149_0
       replace hx149_1 := (HB.out.cell (World.block_lt_of_cell? w _ hx149_1)).trans hx149_1
       replace hx149_2 := (HB.out.cell (World.block_lt_of_cell? w _ hx149_2)).trans hx149_2
       replace p149 := eq_true p149
       replace q149 := eq_true q149
       go_wp2_with (first | ((with_reducible refine gate_dst (N := 6) rfl ?_); refine box_event ?hg (N := 6) ?hd (cs := #[.int .i64 0, .int .i64 0, .int .u32 0]) (t := 60) ?hr ?_; (case hd => rfl); (case hg => rfl); (case hr => first | (go_simp; done) | (go_simp; rfl)); intro gb150 hg w16 hbox hb; have n0_ := Aside0.mk (below_step (by repeat (first | (with_reducible first | exact HB.out | apply below_alloc | apply pw_below_drewN | apply below_drew1) | exact HB.out)) hb); have n1_ := Aside0.mk (hbox); have n2_ := Aside0.mk ((by rw [hg]; exact (below_size (by repeat (first | (with_reducible first | exact HB.out | apply below_alloc | apply pw_below_drewN | apply below_drew1) | exact HB.out))) : w.heap.size ≤ gb150)); have n3_ := Aside0.mk ((by rw [hg]; exact (below_size (by repeat (first | (with_reducible first | exact HB.out | apply below_alloc | apply pw_below_drewN | apply below_drew1) | exact HB.out))) : w.heap.size ≤ gb150)); clear HB; have HB := n0_; have BK150 := n1_; have GW150 := n2_; have GE150 := n3_; clear n0_ n1_ n2_ n3_; clear hb hbox hg; obtain ⟨hcz17_0, hcz17_1, hcz17_2⟩ := cells3_ BK150.out; have hfz17_0 := fun j => blk_frozen BK150.out j) | (go_at_call 36; (with_reducible refine (bits_right.calls ((rd_T60 l0 x12_1).f0) ((rd_T60 l0 x12_1).f1) false _ A5.out).mono ?_); rintro e w' ⟨rfl, ⟨nd, rfl⟩⟩; (try first | exact ⟨rfl, _, World.drewN_drewN _ _ _⟩ | exact ⟨rfl, _, Eq.trans (World.drewN_drewN _ _ _) (congrArg (World.drewN _) (Nat.add_assoc _ _ _))⟩)))
       repeat (go_quiet (first | ((with_reducible refine gate_dst (N := 6) rfl ?_); refine box_event ?hg (N := 6) ?hd (cs := #[.int .i64 0, .int .i64 0, .int .u32 0]) (t := 60) ?hr ?_; (case hd => rfl); (case hg => rfl); (case hr => first | (go_simp; done) | (go_simp; rfl)); intro gb150 hg w16 hbox hb; have n0_ := Aside0.mk (below_step (by repeat (first | (with_reducible first | exact HB.out | apply below_alloc | apply pw_below_drewN | apply below_drew1) | exact HB.out)) hb); have n1_ := Aside0.mk (hbox); have n2_ := Aside0.mk ((by rw [hg]; exact (below_size (by repeat (first | (with_reducible first | exact HB.out | apply below_alloc | apply pw_below_drewN | apply below_drew1) | exact HB.out))) : w.heap.size ≤ gb150)); have n3_ := Aside0.mk ((by rw [hg]; exact (below_size (by repeat (first | (with_reducible first | exact HB.out | apply below_alloc | apply pw_below_drewN | apply below_drew1) | exact HB.out))) : w.heap.size ≤ gb150)); clear HB; have HB := n0_; have BK150 := n1_; have GW150 := n2_; have GE150 := n3_; clear n0_ n1_ n2_ n3_; clear hb hbox hg; obtain ⟨hcz17_0, hcz17_1, hcz17_2⟩ := cells3_ BK150.out; have hfz17_0 := fun j => blk_frozen BK150.out j) | (go_at_call 36; (with_reducible refine (bits_right.calls ((rd_T60 l0 x12_1).f0) ((rd_T60 l0 x12_1).f1) false _ A5.out).mono ?_); rintro e w' ⟨rfl, ⟨nd, rfl⟩⟩; (try first | exact ⟨rfl, _, World.drewN_drewN _ _ _⟩ | exact ⟨rfl, _, Eq.trans (World.drewN_drewN _ _ _) (congrArg (World.drewN _) (Nat.add_assoc _ _ _))⟩))); try go_wp2_with (first | ((with_reducible refine gate_dst (N := 6) rfl ?_); refine box_event ?hg (N := 6) ?hd (cs := #[.int .i64 0, .int .i64 0, .int .u32 0]) (t := 60) ?hr ?_; (case hd => rfl); (case hg => rfl); (case hr => first | (go_simp; done) | (go_simp; rfl)); intro gb150 hg w16 hbox hb; have n0_ := Aside0.mk (below_step (by repeat (first | (with_reducible first | exact HB.out | apply below_alloc | apply pw_below_drewN | apply below_drew1) | exact HB.out)) hb); have n1_ := Aside0.mk (hbox); have n2_ := Aside0.mk ((by rw [hg]; exact (below_size (by repeat (first | (with_reducible first | exact HB.out | apply below_alloc | apply pw_below_drewN | apply below_drew1) | exact HB.out))) : w.heap.size ≤ gb150)); have n3_ := Aside0.mk ((by rw [hg]; exact (below_size (by repeat (first | (with_reducible first | exact HB.out | apply below_alloc | apply pw_below_drewN | apply below_drew1) | exact HB.out))) : w.heap.size ≤ gb150)); clear HB; have HB := n0_; have BK150 := n1_; have GW150 := n2_; have GE150 := n3_; clear n0_ n1_ n2_ n3_; clear hb hbox hg; obtain ⟨hcz17_0, hcz17_1, hcz17_2⟩ := cells3_ BK150.out; have hfz17_0 := fun j => blk_frozen BK150.out j) | (go_at_call 36; (with_reducible refine (bits_right.calls ((rd_T60 l0 x12_1).f0) ((rd_T60 l0 x12_1).f1) false _ A5.out).mono ?_); rintro e w' ⟨rfl, ⟨nd, rfl⟩⟩; (try first | exact ⟨rfl, _, World.drewN_drewN _ _ _⟩ | exact ⟨rfl, _, Eq.trans (World.drewN_drewN _ _ _) (congrArg (World.drewN _) (Nat.add_assoc _ _ _))⟩))))
       go_ret2
       exact ⟨by first | rfl | (simp [errW_none, errW_some] <;> rfl) | (simp [*, errW_none, errW_some] <;> rfl), by repeat (first | (with_reducible first | exact HB.out | apply below_alloc | apply pw_below_drewN | apply below_drew1 | refine below_set ?_ GE150.out) | exact HB.out)⟩
     ·
      rw [if_neg c4] at H
      exact absurd H (by simp)
    ·
     rw [if_neg c3] at H
     exact absurd H (by simp)
   ·
    rw [if_neg c2] at H
    have c2b0 : decide (x12_1 < (l0.length : Int)) = false := decide_eq_false c2
    clear c2
    replace H := Option.bind_eq_some_iff.mp H
    obtain ⟨t153, A180, H⟩ := H
    replace H : (if t153 = true then (some (0, 4)) else (bits_Word.l1 k1 0 l0 (l0.length : Int) 0)) = some (r1, r2) := H
    have A18 := Aside0.mk A180
    clear A180
    by_cases c19 : t153 = true
    ·
     subst c19
     have H1 : (some (0, 4)) = some (r1, r2) := by rw [if_pos rfl] at H; exact H
     clear H
     have H := H1
     clear H1
     simp only [Option.some.injEq, Prod.mk.injEq] at H
     obtain ⟨rfl, rfl⟩ := H
     go_wp2_with (first | (go_at_call 86; (with_reducible refine (api_Field_86.calls _ _ l0 true _ ?side1 ?side2 A18.out).mono ?_); (case side1 => repeat (first | exact (Kd.C_below HR0.out HB.out) | (with_reducible refine Kd.C_alloc ?_ _) | (with_reducible refine Kd.C_drewN ?_ _) | (with_reducible refine Kd.C_drew ?_))); (case side2 => exact HC0.out); rintro e w20 ⟨rfl, hb⟩; have n0_ := Aside0.mk (below_step (by repeat (first | (with_reducible first | exact HB.out | apply below_alloc | apply pw_below_drewN | apply below_drew1) | exact HB.out)) hb); clear HB; have HB := n0_; clear n0_; (try clear hb); (try clear hb2); (try clear hk); (try clear hi)))
     repeat (go_quiet (first | (go_at_call 86; (with_reducible refine (api_Field_86.calls _ _ l0 true _ ?side1 ?side2 A18.out).mono ?_); (case side1 => repeat (first | exact (Kd.C_below HR0.out HB.out) | (with_reducible refine Kd.C_alloc ?_ _) | (with_reducible refine Kd.C_drewN ?_ _) | (with_reducible refine Kd.C_drew ?_))); (case side2 => exact HC0.out); rintro e w20 ⟨rfl, hb⟩; have n0_ := Aside0.mk (below_step (by repeat (first | (with_reducible first | exact HB.out | apply below_alloc | apply pw_below_drewN | apply below_drew1) | exact HB.out)) hb); clear HB; have HB := n0_; clear n0_; (try clear hb); (try clear hb2); (try clear hk); (try clear hi))); try go_wp2_with (first | (go_at_call 86; (with_reducible refine (api_Field_86.calls _ _ l0 true _ ?side1 ?side2 A18.out).mono ?_); (case side1 => repeat (first | exact (Kd.C_below HR0.out HB.out) | (with_reducible refine Kd.C_alloc ?_ _) | (with_reducible refine Kd.C_drewN ?_ _) | (with_reducible refine Kd.C_drew ?_))); (case side2 => exact HC0.out); rintro e w20 ⟨rfl, hb⟩; have n0_ := Aside0.mk (below_step (by repeat (first | (with_reducible first | exact HB.out | apply below_alloc | apply pw_below_drewN | apply below_drew1) | exact HB.out)) hb); clear HB; have HB := n0_; clear n0_; (try clear hb); (try clear hb2); (try clear hk); (try clear hi))))
     go_ret2
     exact ⟨by first | rfl | (simp [errW_none, errW_some] <;> rfl) | (simp [*, errW_none, errW_some] <;> rfl), by repeat (first | (with_reducible first | exact HB.out | apply below_alloc | apply pw_below_drewN | apply below_drew1) | exact HB.out)⟩
    ·
     replace c19 := Bool.eq_false_iff.mpr c19
     subst c19
     have H1 : (bits_Word.l1 k1 0 l0 (l0.length : Int) 0) = some (r1, r2) := by rw [if_neg (show ¬ (false = true) by decide)] at H; exact H
     clear H
     have H := H1
     clear H1
     have H' := Aside0.mk H
     clear H
     go_wp2_with (first | (go_at_call 86; (with_reducible refine (api_Field_86.calls _ _ l0 false _ ?side1 ?side2 A18.out).mono ?_); (case side1 => repeat (first | exact (Kd.C_below HR0.out HB.out) | (with_reducible refine Kd.C_alloc ?_ _) | (with_reducible refine Kd.C_drewN ?_ _) | (with_reducible refine Kd.C_drew ?_))); (case side2 => exact HC0.out); rintro e w21 ⟨rfl, hb⟩; have n0_ := Aside0.mk (below_step (by repeat (first | (with_reducible first | exact HB.out | apply below_alloc | apply pw_below_drewN | apply below_drew1) | exact HB.out)) hb); clear HB; have HB := n0_; clear n0_; (try clear hb); (try clear hb2); (try clear hk); (try clear hi)))
     repeat (go_quiet (first | (go_at_call 86; (with_reducible refine (api_Field_86.calls _ _ l0 false _ ?side1 ?side2 A18.out).mono ?_); (case side1 => repeat (first | exact (Kd.C_below HR0.out HB.out) | (with_reducible refine Kd.C_alloc ?_ _) | (with_reducible refine Kd.C_drewN ?_ _) | (with_reducible refine Kd.C_drew ?_))); (case side2 => exact HC0.out); rintro e w21 ⟨rfl, hb⟩; have n0_ := Aside0.mk (below_step (by repeat (first | (with_reducible first | exact HB.out | apply below_alloc | apply pw_below_drewN | apply below_drew1) | exact HB.out)) hb); clear HB; have HB := n0_; clear n0_; (try clear hb); (try clear hb2); (try clear hk); (try clear hi))); try go_wp2_with (first | (go_at_call 86; (with_reducible refine (api_Field_86.calls _ _ l0 false _ ?side1 ?side2 A18.out).mono ?_); (case side1 => repeat (first | exact (Kd.C_below HR0.out HB.out) | (with_reducible refine Kd.C_alloc ?_ _) | (with_reducible refine Kd.C_drewN ?_ _) | (with_reducible refine Kd.C_drew ?_))); (case side2 => exact HC0.out); rintro e w21 ⟨rfl, hb⟩; have n0_ := Aside0.mk (below_step (by repeat (first | (with_reducible first | exact HB.out | apply below_alloc | apply pw_below_drewN | apply below_drew1) | exact HB.out)) hb); clear HB; have HB := n0_; clear n0_; (try clear hb); (try clear hb2); (try clear hk); (try clear hi))))
     go_loopg [7, 46] k1 (fun kq v7 v46 w' => ∃ (x7_2 : Int) (x46_2 : Int), v7 = .int .u32 x7_2 ∧ v46 = .int .i64 x46_2 ∧ Aside0 (bits_Word.l1 kq x7_2 l0 (l0.length : Int) x46_2 = some (r1, r2)) ∧ Aside0 (kq ≤ k1) ∧ Aside0 (Below w.heap.size w w'))
     case atStart => exact ⟨(0), (0), (by first | rfl | (simp; done) | (simp [*]; done)), (by first | rfl | (simp; done) | (simp [*]; done)), H', ⟨Nat.le_refl _⟩, ⟨by repeat (first | (with_reducible first | exact HB.out | apply below_alloc | apply pw_below_drewN | apply below_drew1) | exact HB.out)⟩⟩
     case round =>
      clear H'
      try clear c1
      try clear p1
      try clear q1
      try clear hx1
      try clear c2
      try clear c2b0
      try clear p2
      try clear c3
      try clear c3b0
      try clear c4
      try clear c4b0
      try clear c5
      try clear c6
      try clear p6
      try clear c8
      try clear c8b0
      try clear c8b1
      try clear c10
      try clear c10b0
      try clear c10b1
      try clear c11
      try clear c11b0
      try clear p14
      try clear q14
      try clear hx14
      try clear c19
      try clear hcz13_0 hcz13_1 hcz13_2
      try clear hcz15_0 hcz15_1 hcz15_2
      try clear hcz17_0 hcz17_1 hcz17_2
      try clear hfz13_0
      try clear hfz15_0
      try clear hfz17_0
      try clear hx149_0
      try clear hx149_1
      try clear hx149_2
      try clear p149
      try clear q149
      obtain ⟨x7_2, x46_2, rfl, rfl, HA, HK2, HB⟩ := hrel
      cases gk with
      | zero => exact absurd HA.out (by simp [bits_Word.l1])
      | succ k2 =>
       have H := HA.out
       clear HA
       simp only [bits_Word.l1] at H
       by_cases c22 : x46_2 < (l0.length : Int)
       ·
        rw [if_pos c22] at H
        have c22b0 : decide (x46_2 < (l0.length : Int)) = true := decide_eq_true c22
        clear c22
        by_cases c23 : 0 ≤ x46_2
        ·
         rw [if_pos c23] at H
         have c23b0 : decide (0 ≤ x46_2) = true := decide_eq_true c23
         clear c23
         by_cases c24 : x46_2 < (l0.length : Int)
         ·
          rw [if_pos c24] at H
          have c24b0 : decide (x46_2 < (l0.length : Int)) = true := decide_eq_true c24
          clear c24
          by_cases c25 : 0 ≤ ((rd_T60 l0 x46_2).f0)
          ·
           rw [if_pos c25] at H
           have c25b0 := eq_true c25
           have c25b1 : decide (0 ≤ ((rd_T60 l0 x46_2).f0)) = true := decide_eq_true c25
           clear c25
           obtain ⟨ji26, hji26⟩ : ∃ j_ : Int, (shl .u32 ((rd_T60 l0 x46_2).f2) ((rd_T60 l0 x46_2).f0)) = j_ := ⟨_, rfl⟩
           replace H : (bits_Word.l1 k2 (Go.bits .or .u32 x7_2 (ji26)) l0 (l0.length : Int) (wrap64 (x46_2 + 1))) = some (r1, r2) := by first | (rw [hji26] at H; exact H) | (simp only [hji26] at H ⊢; exact H)
           have hji26_ : (IntKind.u32.wrap (((rd_T60 l0 x46_2).f2) * 2 ^ min ((rd_T60 l0 x46_2).f0).toNat 32)) = ji26 := hji26
           have hji26z : ((rd_T60 l0 x46_2).f0) ≤ 32 → (IntKind.u32.wrap (((rd_T60 l0 x46_2).f2) * 2 ^ ((rd_T60 l0 x46_2).f0).toNat)) = ji26 := shl_small hji26
           have H' := Aside0.mk H
           clear H
           have p154 : 0 ≤ (x46_2 : Int) := of_decide_eq_true (by first | (with_reducible assumption) | assumption)
           have q154 : x46_2 < (l0.length : Int) := of_decide_eq_true (by first | (with_reducible assumption) | assumption)
           obtain ⟨ad154, e154, hx154_0, hx154_1, hx154_2⟩ := at_T60 HR0.out x46_2 p154 q154
           cases e154
           replace hx154_0 := (HB.out.cell (World.block_lt_of_cell? w _ hx154_0)).trans hx154_0
           replace hx154_1 := (HB.out.cell (World.block_lt_of_cell? w _ hx154_1)).trans hx154_1
           replace hx154_2 := (HB.out.cell (World.block_lt_of_cell? w _ hx154_2)).trans hx154_2
           replace p154 := eq_true p154
           replace q154 := eq_true q154
           go_wp2_with (first | ((with_reducible refine gate_dst (N := 9) rfl ?_); refine box_event ?hg (N := 9) ?hd (cs := #[.int .i64 0, .int .i64 0, .int .u32 0]) (t := 60) ?hr ?_; (case hd => rfl); (case hg => rfl); (case hr => first | (go_simp; done) | (go_simp; rfl)); intro gb155 hg w27 hbox hb; have n0_ := Aside0.mk (below_step (by repeat (first | (with_reducible first | exact HB.out | apply below_alloc | apply pw_below_drewN | apply below_drew1) | exact HB.out)) hb); have n1_ := Aside0.mk (hbox); have n2_ := Aside0.mk ((by rw [hg]; exact (below_size (by repeat (first | (with_reducible first | exact HB.out | apply below_alloc | apply pw_below_drewN | apply below_drew1) | exact HB.out))) : w.heap.size ≤ gb155)); have n3_ := Aside0.mk ((by rw [hg]; exact (below_size (by repeat (first | (with_reducible first | exact HB.out | apply below_alloc | apply pw_below_drewN | apply below_drew1) | exact HB.out))) : w.heap.size ≤ gb155)); clear HB; have HB := n0_; have BK155 := n1_; have GW155 := n2_; have GE155 := n3_; clear n0_ n1_ n2_ n3_; clear hb hbox hg; obtain ⟨hcz28_0, hcz28_1, hcz28_2⟩ := cells3_ BK155.out; have hfz28_0 := fun j => blk_frozen BK155.out j))
           repeat (go_quiet (first | ((with_reducible refine gate_dst (N := 9) rfl ?_); refine box_event ?hg (N := 9) ?hd (cs := #[.int .i64 0, .int .i64 0, .int .u32 0]) (t := 60) ?hr ?_; (case hd => rfl); (case hg => rfl); (case hr => first | (go_simp; done) | (go_simp; rfl)); intro gb155 hg w27 hbox hb; have n0_ := Aside0.mk (below_step (by repeat (first | (with_reducible first | exact HB.out | apply below_alloc | apply pw_below_drewN | apply below_drew1) | exact HB.out)) hb); have n1_ := Aside0.mk (hbox); have n2_ := Aside0.mk ((by rw [hg]; exact (below_size (by repeat (first | (with_reducible first | exact HB.out | apply below_alloc | apply pw_below_drewN | apply below_drew1) | exact HB.out))) : w.heap.size ≤ gb155)); have n3_ := Aside0.mk ((by rw [hg]; exact (below_size (by repeat (first | (with_reducible first | exact HB.out | apply below_alloc | apply pw_below_drewN | apply below_drew1) | exact HB.out))) : w.heap.size ≤ gb155)); clear HB; have HB := n0_; have BK155 := n1_; have GW155 := n2_; have GE155 := n3_; clear n0_ n1_ n2_ n3_; clear hb hbox hg; obtain ⟨hcz28_0, hcz28_1, hcz28_2⟩ := cells3_ BK155.out; have hfz28_0 := fun j => blk_frozen BK155.out j)); try go_wp2_with (first | ((with_reducible refine gate_dst (N := 9) rfl ?_); refine box_event ?hg (N := 9) ?hd (cs := #[.int .i64 0, .int .i64 0, .int .u32 0]) (t := 60) ?hr ?_; (case hd => rfl); (case hg => rfl); (case hr => first | (go_simp; done) | (go_simp; rfl)); intro gb155 hg w27 hbox hb; have n0_ := Aside0.mk (below_step (by repeat (first | (with_reducible first | exact HB.out | apply below_alloc | apply pw_below_drewN | apply below_drew1) | exact HB.out)) hb); have n1_ := Aside0.mk (hbox); have n2_ := Aside0.mk ((by rw [hg]; exact (below_size (by repeat (first | (with_reducible first | exact HB.out | apply below_alloc | apply pw_below_drewN | apply below_drew1) | exact HB.out))) : w.heap.size ≤ gb155)); have n3_ := Aside0.mk ((by rw [hg]; exact (below_size (by repeat (first | (with_reducible first | exact HB.out | apply below_alloc | apply pw_below_drewN | apply below_drew1) | exact HB.out))) : w.heap.size ≤ gb155)); clear HB; have HB := n0_; have BK155 := n1_; have GW155 := n2_; have GE155 := n3_; clear n0_ n1_ n2_ n3_; clear hb hbox hg; obtain ⟨hcz28_0, hcz28_1, hcz28_2⟩ := cells3_ BK155.out; have hfz28_0 := fun j => blk_frozen BK155.out j)))
           go_roundg k2
           case measure => have := HK1.out; have := HK2.out; omega
           case rel => exact ⟨(Go.bits .or .u32 x7_2 (ji26)), (wrap64 (x46_2 + 1)), (by first | rfl | (simp; done) | (simp only [← hji26] <;> (first | rfl | simp)) | (simp [*]; done)), (by first | rfl | (simp; done) | (simp [*]; done)), H', ⟨by have := HK1.out; have := HK2.out; omega⟩, ⟨by repeat (first | (with_reducible first | exact HB.out | apply below_alloc | apply pw_below_drewN | apply below_drew1 | refine below_set ?_ GE155.out) | exact HB.out)⟩⟩
          ·
           rw [if_neg c25] at H
           exact absurd H (by simp)
         ·
          rw [if_neg c24] at H
          exact absurd H (by simp)
        ·
         rw [if_neg c23] at H
         exact absurd H (by simp)
       ·
        rw [if_neg c22] at H
        have c22b0 : decide (x46_2 < (l0.length : Int)) = false := decide_eq_false c22
        clear c22
        simp only [Option.some.injEq, Prod.mk.injEq] at H
        obtain ⟨rfl, rfl⟩ := H
        go_wp2
        repeat (go_quiet (fail); try go_wp2)
        go_ret2
        exact ⟨by first | rfl | (simp [errW_none, errW_some] <;> rfl) | (simp [*, errW_none, errW_some] <;> rfl), by repeat (first | (with_reducible first | exact HB.out | apply below_alloc | apply pw_below_drewN | apply below_drew1) | exact HB.out)⟩

end Go.Proofs.YtkpkkjbigndnoaaDoor.P
