/- The arithmetic instructions: what they make, and that each makes something (chapter 6). -/
import Derived.Test.YtkmochnefidlmaaDoorMAlu
import Derived.Test.YtkmochnefidlmaaDoorMInstA
import Derived.Test.YtkmochnefidlmaaDoorMMaskU
namespace Go.Proofs.YtkmochnefidlmaaDoor.M
open Go.RowKit Go.Proofs.YtkmochnefidlmaaDoor.P Go.Proofs.YtkmochnefidlmaaDoorW.PrintWords Go.Proofs.YtkmochnefidlmaaDoorW.PrintLast Go.Proofs.YtkmochnefidlmaaDoorW.PrintMore
set_option linter.unusedVariables false
set_option linter.unusedSimpArgs false

theorem u64_nn (x : Int) : 0 ≤ IntKind.u64.wrap x := by rw [IntKind.wrap_u64]; omega
theorem u64_nx (x : Int) : IntKind.u64.wrap x < 18446744073709551616 := by rw [IntKind.wrap_u64]; omega
theorem or_nn (a b : Int) : 0 ≤ Go.bits .or .u64 a b := by unfold Go.bits; exact u64_nn _
theorem xor_nn (a b : Int) : 0 ≤ Go.bits .xor .u64 a b := by unfold Go.bits; exact u64_nn _
theorem shl_nn (a b : Int) : 0 ≤ shl .u64 a b := by unfold shl; exact u64_nn _
theorem shift_one (a b c : Int) : ∃ r e, 0 ≤ r ∧ flag_Shift.f 1 a b c = some (r, e) := by
  unfold flag_Shift.f
  by_cases h0 : c < 0
  · rw [if_pos h0]
    exact ⟨0, 1, by omega, by simp [flag_Shift.j0]⟩
  · rw [if_neg h0]
    by_cases h1 : c ≥ 64
    · exact ⟨0, 1, by omega, by simp [flag_Shift.j0, h1]⟩
    · have hw : 0 ≤ wrap64 (64 - c) := by unfold wrap64; omega
      have h2 : 0 ≤ c := by omega
      simp only [flag_Shift.j0, h1, decide_false, Bool.false_eq_true, if_false, hw, h2, if_true]
      by_cases b0 : b = 0
      · exact ⟨shl .u64 a c, 0, shl_nn _ _, by rw [if_pos b0]⟩
      · rw [if_neg b0]
        by_cases b3 : b = 3
        · rw [if_pos b3]; exact ⟨_, _, or_nn _ _, rfl⟩
        · rw [if_neg b3]
          by_cases b1 : b = 1
          · rw [if_pos b1]; exact ⟨_, _, or_nn _ _, rfl⟩
          · rw [if_neg b1]
            by_cases b2 : b = 2
            · rw [if_pos b2]; exact ⟨_, _, u64_nn _, rfl⟩
            · rw [if_neg b2]; exact ⟨_, _, by omega, rfl⟩
theorem shift_some (a b c : Int) : ∃ r e, 0 ≤ r ∧ ∀ k, 1 ≤ k → flag_Shift.f k a b c = some (r, e) := by
  obtain ⟨r, e, h0, h⟩ := shift_one a b c
  exact ⟨r, e, h0, fun k hk => at_rounds (g := fun k => flag_Shift.f k a b c) (flag_Shift.mono _ _ _) hk h⟩
theorem v_some (s : Nat) (i1 i2 i3 i4 i5 i6 i7 i8 i9 x0 x1 x2 x3 : Int) (h6 : 0 ≤ i6) : ∃ v, 0 ≤ v ∧ ∀ op, shapeN op = s → ∀ k f0 f1 f2 f3, 1 ≤ k → alu_worker_v.f k op i1 i2 i3 i4 i5 i6 i7 i8 i9 x0 x1 x2 x3 f0 f1 f2 f3 = some v := by
  obtain ⟨p, pe, hp0, hp⟩ := shift_some (IntKind.u64.wrap i5) 0 i8
  obtain ⟨q, qe, hq0, hq⟩ := shift_some x2 i7 i8
  by_cases c1 : ((s : Nat) : Int) = 1 ∨ ((s : Nat) : Int) = 2
  · refine ⟨p, hp0, fun op hs k f0 f1 f2 f3 hk => ?_⟩
    unfold alu_worker_v.f
    rw [shape_at, hs, Option.bind_some, if_pos c1, hp k hk, Option.bind_some]
  · by_cases c2 : ((s : Nat) : Int) = 3
    · refine ⟨i6, h6, fun op hs k f0 f1 f2 f3 hk => ?_⟩
      unfold alu_worker_v.f
      rw [shape_at, hs, Option.bind_some, if_neg c1, if_pos c2]
    · refine ⟨q, hq0, fun op hs k f0 f1 f2 f3 hk => ?_⟩
      unfold alu_worker_v.f
      rw [shape_at, hs, Option.bind_some, if_neg c1, if_neg c2, hq k hk, Option.bind_some]
/-- Is an instruction one of arithmetic? -/
def aluB (op d n m a imm mask shift amount cond : Int) (mk : Bool) : Bool := okB op d n m a imm mask shift amount cond mk && (decide (shapeN op ≤ 6) || shapeN op == 16)
theorem alu_is_at (op d n m a imm mask shift amount cond : Int) (m0 : 0 ≤ mask) (m1 : mask < 18446744073709551616) : ∃ mk, ∀ k op', 310 ≤ k → alu_Is.f k op' d n m a imm mask shift amount cond = some (aluB op' d n m a imm mask shift amount cond mk) := by
  obtain ⟨mk, h⟩ := is_ends mask m0 m1
  refine ⟨mk, fun k op' hk => ?_⟩
  obtain ⟨k, rfl⟩ : ∃ q, k = q + 2 := ⟨k - 2, by omega⟩
  unfold alu_Is.f
  rw [shape_at, Option.bind_some, is_at k _ _ _ _ _ _ _ _ _ _ mk (h k (by omega)), Option.bind_some]
  unfold aluB
  generalize okB op' d n m a imm mask shift amount cond mk = b
  generalize shapeN op' = s
  cases b
  · simp
  · rw [if_pos rfl]
    by_cases h6 : (s : Int) ≤ 6
    · rw [if_pos h6]
      have : s ≤ 6 := by omega
      simp [this]
    · rw [if_neg h6]
      have : ¬ s ≤ 6 := by omega
      congr 1
      rw [Bool.eq_iff_iff]
      simp [this]
      omega
theorem aluB_sister {op op' : Int} (h : shapeN op = shapeN op') (d n m a imm mask shift amount cond : Int) (mk : Bool) : aluB op d n m a imm mask shift amount cond mk = aluB op' d n m a imm mask shift amount cond mk := by
  unfold aluB okB
  simp only [h]
theorem shape_ops : ∀ n : Fin 40, (shapeN n.val ≤ 6 ∨ shapeN n.val = 16) → (n.val = 0 ∨ (1 ≤ n.val ∧ n.val ≤ 21) ∨ n.val = 39) := by decide +kernel
theorem aluB_op {op d n m a imm mask shift amount cond : Int} {mk : Bool} (h : aluB op d n m a imm mask shift amount cond mk = true) : (1 ≤ op ∧ op ≤ 21 ∨ op = 39) ∧ 0 ≤ amount := by
  unfold aluB at h
  simp only [Bool.and_eq_true, Bool.or_eq_true, decide_eq_true_eq, beq_iff_eq] at h
  obtain ⟨h1, h2⟩ := h
  have hs : shapeN op ≠ 0 := by
    intro h0
    unfold okB at h1
    simp [h0] at h1
  have hop : 1 ≤ op ∧ op ≤ 39 := by
    have := shapeN_zero op
    omega
  obtain ⟨o, rfl⟩ := Int.eq_ofNat_of_zero_le (show 0 ≤ op by omega)
  have h3 := shape_ops ⟨o, by omega⟩ h2
  simp only at h3
  refine ⟨by omega, ?_⟩
  unfold okB at h1
  simp only [Bool.and_eq_true] at h1
  have h4 := h1.1.1.1.2
  unfold stepB at h4
  split at h4
  · have := eq_of_beq h4; omega
  · simp at h4; omega
theorem w_put (k : Nat) (op i1 i2 i3 i4 i5 i6 i7 i8 i9 x0 x1 x2 x3 v : Int) (f0 f1 f2 f3 : Bool) (hk : 1 ≤ k) (hv : ∀ k f0 f1 f2 f3, 1 ≤ k → alu_worker_v.f k op i1 i2 i3 i4 i5 i6 i7 i8 i9 x0 x1 x2 x3 f0 f1 f2 f3 = some v) : alu_worker_put.f k op i1 i2 i3 i4 i5 i6 i7 i8 i9 x0 x1 x2 x3 f0 f1 f2 f3 = some (v, f0, f1, f2, f3) := by
  unfold alu_worker_put.f; rw [hv k _ _ _ _ hk, Option.bind_some]
theorem w_not (k : Nat) (op i1 i2 i3 i4 i5 i6 i7 i8 i9 x0 x1 x2 x3 v : Int) (f0 f1 f2 f3 : Bool) (hk : 1 ≤ k) (hv : ∀ k f0 f1 f2 f3, 1 ≤ k → alu_worker_v.f k op i1 i2 i3 i4 i5 i6 i7 i8 i9 x0 x1 x2 x3 f0 f1 f2 f3 = some v) : ∃ r, alu_worker_not.f k op i1 i2 i3 i4 i5 i6 i7 i8 i9 x0 x1 x2 x3 f0 f1 f2 f3 = some (r, f0, f1, f2, f3) := by
  unfold alu_worker_not.f; rw [hv k _ _ _ _ hk, Option.bind_some]; exact ⟨_, rfl⟩
theorem w_keep (k : Nat) (op i1 i2 i3 i4 i5 i6 i7 i8 i9 x0 x1 x2 x3 v : Int) (f0 f1 f2 f3 : Bool) (hk : 1 ≤ k) (hv : ∀ k f0 f1 f2 f3, 1 ≤ k → alu_worker_v.f k op i1 i2 i3 i4 i5 i6 i7 i8 i9 x0 x1 x2 x3 f0 f1 f2 f3 = some v) : 0 ≤ i8 → ∃ r, alu_worker_keep.f k op i1 i2 i3 i4 i5 i6 i7 i8 i9 x0 x1 x2 x3 f0 f1 f2 f3 = some (r, f0, f1, f2, f3) := by
  intro h8; unfold alu_worker_keep.f; rw [if_pos h8, hv k _ _ _ _ hk, Option.bind_some]; exact ⟨_, rfl⟩
theorem w_and (k : Nat) (op i1 i2 i3 i4 i5 i6 i7 i8 i9 x0 x1 x2 x3 v : Int) (f0 f1 f2 f3 : Bool) (hk : 1 ≤ k) (hv : ∀ k f0 f1 f2 f3, 1 ≤ k → alu_worker_v.f k op i1 i2 i3 i4 i5 i6 i7 i8 i9 x0 x1 x2 x3 f0 f1 f2 f3 = some v) : alu_worker_and.f k op i1 i2 i3 i4 i5 i6 i7 i8 i9 x0 x1 x2 x3 f0 f1 f2 f3 = some (Go.bits .and .u64 x1 v, f0, f1, f2, f3) := by
  unfold alu_worker_and.f; rw [hv k _ _ _ _ hk, Option.bind_some]
theorem w_orr (k : Nat) (op i1 i2 i3 i4 i5 i6 i7 i8 i9 x0 x1 x2 x3 v : Int) (f0 f1 f2 f3 : Bool) (hk : 1 ≤ k) (hv : ∀ k f0 f1 f2 f3, 1 ≤ k → alu_worker_v.f k op i1 i2 i3 i4 i5 i6 i7 i8 i9 x0 x1 x2 x3 f0 f1 f2 f3 = some v) : alu_worker_orr.f k op i1 i2 i3 i4 i5 i6 i7 i8 i9 x0 x1 x2 x3 f0 f1 f2 f3 = some (Go.bits .or .u64 x1 v, f0, f1, f2, f3) := by
  unfold alu_worker_orr.f; rw [hv k _ _ _ _ hk, Option.bind_some]
theorem w_eor (k : Nat) (op i1 i2 i3 i4 i5 i6 i7 i8 i9 x0 x1 x2 x3 v : Int) (f0 f1 f2 f3 : Bool) (hk : 1 ≤ k) (hv : ∀ k f0 f1 f2 f3, 1 ≤ k → alu_worker_v.f k op i1 i2 i3 i4 i5 i6 i7 i8 i9 x0 x1 x2 x3 f0 f1 f2 f3 = some v) : alu_worker_eor.f k op i1 i2 i3 i4 i5 i6 i7 i8 i9 x0 x1 x2 x3 f0 f1 f2 f3 = some (Go.bits .xor .u64 x1 v, f0, f1, f2, f3) := by
  unfold alu_worker_eor.f; rw [hv k _ _ _ _ hk, Option.bind_some]
theorem w_ands (k : Nat) (op i1 i2 i3 i4 i5 i6 i7 i8 i9 x0 x1 x2 x3 v : Int) (f0 f1 f2 f3 : Bool) (hk : 1 ≤ k) (hv : ∀ k f0 f1 f2 f3, 1 ≤ k → alu_worker_v.f k op i1 i2 i3 i4 i5 i6 i7 i8 i9 x0 x1 x2 x3 f0 f1 f2 f3 = some v) : alu_worker_ands.f k op i1 i2 i3 i4 i5 i6 i7 i8 i9 x0 x1 x2 x3 f0 f1 f2 f3 = some (Go.bits .and .u64 x1 v, decide (wrap64 (Go.bits .and .u64 x1 v) < 0), Go.bits .and .u64 x1 v == 0, false, false) := by
  unfold alu_worker_ands.f; rw [w_and k op i1 i2 i3 i4 i5 i6 i7 i8 i9 x0 x1 x2 x3 v f0 f1 f2 f3 hk hv, Option.bind_some]; unfold flag_Of.f; rw [Option.bind_some]
theorem w_adds (k : Nat) (op i1 i2 i3 i4 i5 i6 i7 i8 i9 x0 x1 x2 x3 v : Int) (f0 f1 f2 f3 : Bool) (hk : 1 ≤ k) (hv : ∀ k f0 f1 f2 f3, 1 ≤ k → alu_worker_v.f k op i1 i2 i3 i4 i5 i6 i7 i8 i9 x0 x1 x2 x3 f0 f1 f2 f3 = some v) : 0 ≤ x1 → 0 ≤ v → ∃ c w, alu_worker_adds.f k op i1 i2 i3 i4 i5 i6 i7 i8 i9 x0 x1 x2 x3 f0 f1 f2 f3 = some (flag_sum x1 v false, decide (wrap64 (flag_sum x1 v false) < 0), flag_sum x1 v false == 0, c, w) := by
  intro h1 h2; unfold alu_worker_adds.f; rw [hv k _ _ _ _ hk, Option.bind_some]; unfold flag_Add.f; rw [if_pos h1, if_pos h2, Option.bind_some]; exact ⟨_, _, rfl⟩
theorem w_add (k : Nat) (op i1 i2 i3 i4 i5 i6 i7 i8 i9 x0 x1 x2 x3 v : Int) (f0 f1 f2 f3 : Bool) (hk : 1 ≤ k) (hv : ∀ k f0 f1 f2 f3, 1 ≤ k → alu_worker_v.f k op i1 i2 i3 i4 i5 i6 i7 i8 i9 x0 x1 x2 x3 f0 f1 f2 f3 = some v) : 0 ≤ x1 → 0 ≤ v → alu_worker_add.f k op i1 i2 i3 i4 i5 i6 i7 i8 i9 x0 x1 x2 x3 f0 f1 f2 f3 = some (flag_sum x1 v false, f0, f1, f2, f3) := by
  intro h1 h2; unfold alu_worker_add.f; obtain ⟨c, w, h⟩ := w_adds k op i1 i2 i3 i4 i5 i6 i7 i8 i9 x0 x1 x2 x3 v f0 f1 f2 f3 hk hv h1 h2; rw [h, Option.bind_some]
theorem w_subs (k : Nat) (op i1 i2 i3 i4 i5 i6 i7 i8 i9 x0 x1 x2 x3 v : Int) (f0 f1 f2 f3 : Bool) (hk : 1 ≤ k) (hv : ∀ k f0 f1 f2 f3, 1 ≤ k → alu_worker_v.f k op i1 i2 i3 i4 i5 i6 i7 i8 i9 x0 x1 x2 x3 f0 f1 f2 f3 = some v) : 0 ≤ x1 → ∃ c w, alu_worker_subs.f k op i1 i2 i3 i4 i5 i6 i7 i8 i9 x0 x1 x2 x3 f0 f1 f2 f3 = some (flag_sum x1 (Go.bits .xor .u64 18446744073709551615 v) true, decide (wrap64 (flag_sum x1 (Go.bits .xor .u64 18446744073709551615 v) true) < 0), flag_sum x1 (Go.bits .xor .u64 18446744073709551615 v) true == 0, c, w) := by
  intro h1; unfold alu_worker_subs.f; rw [hv k _ _ _ _ hk, Option.bind_some]; unfold flag_Sub.f flag_Add.f; rw [if_pos h1, if_pos (xor_nn _ _), Option.bind_some, Option.bind_some]; exact ⟨_, _, rfl⟩
theorem w_sub (k : Nat) (op i1 i2 i3 i4 i5 i6 i7 i8 i9 x0 x1 x2 x3 v : Int) (f0 f1 f2 f3 : Bool) (hk : 1 ≤ k) (hv : ∀ k f0 f1 f2 f3, 1 ≤ k → alu_worker_v.f k op i1 i2 i3 i4 i5 i6 i7 i8 i9 x0 x1 x2 x3 f0 f1 f2 f3 = some v) : 0 ≤ x1 → alu_worker_sub.f k op i1 i2 i3 i4 i5 i6 i7 i8 i9 x0 x1 x2 x3 f0 f1 f2 f3 = some (flag_sum x1 (Go.bits .xor .u64 18446744073709551615 v) true, f0, f1, f2, f3) := by
  intro h1; unfold alu_worker_sub.f; obtain ⟨c, w, h⟩ := w_subs k op i1 i2 i3 i4 i5 i6 i7 i8 i9 x0 x1 x2 x3 v f0 f1 f2 f3 hk hv h1; rw [h, Option.bind_some]
theorem w_csel (op i1 i2 i3 i4 i5 i6 i7 i8 i9 x0 x1 x2 x3 : Int) (f0 f1 f2 f3 : Bool) : ∃ r, alu_worker_csel.f op i1 i2 i3 i4 i5 i6 i7 i8 i9 x0 x1 x2 x3 f0 f1 f2 f3 = some (r, f0, f1, f2, f3) := by
  unfold alu_worker_csel.f flag_Holds.f
  split <;> rw [Option.bind_some] <;> split <;> exact ⟨_, rfl⟩
theorem at_1 (k : Nat) (i1 i2 i3 i4 i5 i6 i7 i8 i9 x0 x1 x2 x3 : Int) (f0 f1 f2 f3 : Bool) : alu_work.f k 1 i1 i2 i3 i4 i5 i6 i7 i8 i9 x0 x1 x2 x3 f0 f1 f2 f3 = alu_worker_put.f k 1 i1 i2 i3 i4 i5 i6 i7 i8 i9 x0 x1 x2 x3 f0 f1 f2 f3 := by
  unfold alu_work.f
  simp
theorem at_2 (k : Nat) (i1 i2 i3 i4 i5 i6 i7 i8 i9 x0 x1 x2 x3 : Int) (f0 f1 f2 f3 : Bool) : alu_work.f k 2 i1 i2 i3 i4 i5 i6 i7 i8 i9 x0 x1 x2 x3 f0 f1 f2 f3 = alu_worker_not.f k 2 i1 i2 i3 i4 i5 i6 i7 i8 i9 x0 x1 x2 x3 f0 f1 f2 f3 := by
  unfold alu_work.f
  simp
theorem at_3 (k : Nat) (i1 i2 i3 i4 i5 i6 i7 i8 i9 x0 x1 x2 x3 : Int) (f0 f1 f2 f3 : Bool) : alu_work.f k 3 i1 i2 i3 i4 i5 i6 i7 i8 i9 x0 x1 x2 x3 f0 f1 f2 f3 = alu_worker_keep.f k 3 i1 i2 i3 i4 i5 i6 i7 i8 i9 x0 x1 x2 x3 f0 f1 f2 f3 := by
  unfold alu_work.f
  simp
theorem at_4 (k : Nat) (i1 i2 i3 i4 i5 i6 i7 i8 i9 x0 x1 x2 x3 : Int) (f0 f1 f2 f3 : Bool) : alu_work.f k 4 i1 i2 i3 i4 i5 i6 i7 i8 i9 x0 x1 x2 x3 f0 f1 f2 f3 = alu_worker_add.f k 4 i1 i2 i3 i4 i5 i6 i7 i8 i9 x0 x1 x2 x3 f0 f1 f2 f3 := by
  unfold alu_work.f
  simp
theorem at_5 (k : Nat) (i1 i2 i3 i4 i5 i6 i7 i8 i9 x0 x1 x2 x3 : Int) (f0 f1 f2 f3 : Bool) : alu_work.f k 5 i1 i2 i3 i4 i5 i6 i7 i8 i9 x0 x1 x2 x3 f0 f1 f2 f3 = alu_worker_sub.f k 5 i1 i2 i3 i4 i5 i6 i7 i8 i9 x0 x1 x2 x3 f0 f1 f2 f3 := by
  unfold alu_work.f
  simp
theorem at_6 (k : Nat) (i1 i2 i3 i4 i5 i6 i7 i8 i9 x0 x1 x2 x3 : Int) (f0 f1 f2 f3 : Bool) : alu_work.f k 6 i1 i2 i3 i4 i5 i6 i7 i8 i9 x0 x1 x2 x3 f0 f1 f2 f3 = alu_worker_adds.f k 6 i1 i2 i3 i4 i5 i6 i7 i8 i9 x0 x1 x2 x3 f0 f1 f2 f3 := by
  unfold alu_work.f
  simp
theorem at_7 (k : Nat) (i1 i2 i3 i4 i5 i6 i7 i8 i9 x0 x1 x2 x3 : Int) (f0 f1 f2 f3 : Bool) : alu_work.f k 7 i1 i2 i3 i4 i5 i6 i7 i8 i9 x0 x1 x2 x3 f0 f1 f2 f3 = alu_worker_subs.f k 7 i1 i2 i3 i4 i5 i6 i7 i8 i9 x0 x1 x2 x3 f0 f1 f2 f3 := by
  unfold alu_work.f
  simp
theorem at_8 (k : Nat) (i1 i2 i3 i4 i5 i6 i7 i8 i9 x0 x1 x2 x3 : Int) (f0 f1 f2 f3 : Bool) : alu_work.f k 8 i1 i2 i3 i4 i5 i6 i7 i8 i9 x0 x1 x2 x3 f0 f1 f2 f3 = alu_worker_and.f k 8 i1 i2 i3 i4 i5 i6 i7 i8 i9 x0 x1 x2 x3 f0 f1 f2 f3 := by
  unfold alu_work.f
  simp
theorem at_9 (k : Nat) (i1 i2 i3 i4 i5 i6 i7 i8 i9 x0 x1 x2 x3 : Int) (f0 f1 f2 f3 : Bool) : alu_work.f k 9 i1 i2 i3 i4 i5 i6 i7 i8 i9 x0 x1 x2 x3 f0 f1 f2 f3 = alu_worker_orr.f k 9 i1 i2 i3 i4 i5 i6 i7 i8 i9 x0 x1 x2 x3 f0 f1 f2 f3 := by
  unfold alu_work.f
  simp
theorem at_10 (k : Nat) (i1 i2 i3 i4 i5 i6 i7 i8 i9 x0 x1 x2 x3 : Int) (f0 f1 f2 f3 : Bool) : alu_work.f k 10 i1 i2 i3 i4 i5 i6 i7 i8 i9 x0 x1 x2 x3 f0 f1 f2 f3 = alu_worker_eor.f k 10 i1 i2 i3 i4 i5 i6 i7 i8 i9 x0 x1 x2 x3 f0 f1 f2 f3 := by
  unfold alu_work.f
  simp
theorem at_11 (k : Nat) (i1 i2 i3 i4 i5 i6 i7 i8 i9 x0 x1 x2 x3 : Int) (f0 f1 f2 f3 : Bool) : alu_work.f k 11 i1 i2 i3 i4 i5 i6 i7 i8 i9 x0 x1 x2 x3 f0 f1 f2 f3 = alu_worker_ands.f k 11 i1 i2 i3 i4 i5 i6 i7 i8 i9 x0 x1 x2 x3 f0 f1 f2 f3 := by
  unfold alu_work.f
  simp
theorem at_12 (k : Nat) (i1 i2 i3 i4 i5 i6 i7 i8 i9 x0 x1 x2 x3 : Int) (f0 f1 f2 f3 : Bool) : alu_work.f k 12 i1 i2 i3 i4 i5 i6 i7 i8 i9 x0 x1 x2 x3 f0 f1 f2 f3 = alu_worker_add.f k 12 i1 i2 i3 i4 i5 i6 i7 i8 i9 x0 x1 x2 x3 f0 f1 f2 f3 := by
  unfold alu_work.f
  simp
theorem at_13 (k : Nat) (i1 i2 i3 i4 i5 i6 i7 i8 i9 x0 x1 x2 x3 : Int) (f0 f1 f2 f3 : Bool) : alu_work.f k 13 i1 i2 i3 i4 i5 i6 i7 i8 i9 x0 x1 x2 x3 f0 f1 f2 f3 = alu_worker_sub.f k 13 i1 i2 i3 i4 i5 i6 i7 i8 i9 x0 x1 x2 x3 f0 f1 f2 f3 := by
  unfold alu_work.f
  simp
theorem at_14 (k : Nat) (i1 i2 i3 i4 i5 i6 i7 i8 i9 x0 x1 x2 x3 : Int) (f0 f1 f2 f3 : Bool) : alu_work.f k 14 i1 i2 i3 i4 i5 i6 i7 i8 i9 x0 x1 x2 x3 f0 f1 f2 f3 = alu_worker_adds.f k 14 i1 i2 i3 i4 i5 i6 i7 i8 i9 x0 x1 x2 x3 f0 f1 f2 f3 := by
  unfold alu_work.f
  simp
theorem at_15 (k : Nat) (i1 i2 i3 i4 i5 i6 i7 i8 i9 x0 x1 x2 x3 : Int) (f0 f1 f2 f3 : Bool) : alu_work.f k 15 i1 i2 i3 i4 i5 i6 i7 i8 i9 x0 x1 x2 x3 f0 f1 f2 f3 = alu_worker_subs.f k 15 i1 i2 i3 i4 i5 i6 i7 i8 i9 x0 x1 x2 x3 f0 f1 f2 f3 := by
  unfold alu_work.f
  simp
theorem at_16 (k : Nat) (i1 i2 i3 i4 i5 i6 i7 i8 i9 x0 x1 x2 x3 : Int) (f0 f1 f2 f3 : Bool) : alu_work.f k 16 i1 i2 i3 i4 i5 i6 i7 i8 i9 x0 x1 x2 x3 f0 f1 f2 f3 = alu_worker_and.f k 16 i1 i2 i3 i4 i5 i6 i7 i8 i9 x0 x1 x2 x3 f0 f1 f2 f3 := by
  unfold alu_work.f
  simp
theorem at_17 (k : Nat) (i1 i2 i3 i4 i5 i6 i7 i8 i9 x0 x1 x2 x3 : Int) (f0 f1 f2 f3 : Bool) : alu_work.f k 17 i1 i2 i3 i4 i5 i6 i7 i8 i9 x0 x1 x2 x3 f0 f1 f2 f3 = alu_worker_orr.f k 17 i1 i2 i3 i4 i5 i6 i7 i8 i9 x0 x1 x2 x3 f0 f1 f2 f3 := by
  unfold alu_work.f
  simp
theorem at_18 (k : Nat) (i1 i2 i3 i4 i5 i6 i7 i8 i9 x0 x1 x2 x3 : Int) (f0 f1 f2 f3 : Bool) : alu_work.f k 18 i1 i2 i3 i4 i5 i6 i7 i8 i9 x0 x1 x2 x3 f0 f1 f2 f3 = alu_worker_eor.f k 18 i1 i2 i3 i4 i5 i6 i7 i8 i9 x0 x1 x2 x3 f0 f1 f2 f3 := by
  unfold alu_work.f
  simp
theorem at_19 (k : Nat) (i1 i2 i3 i4 i5 i6 i7 i8 i9 x0 x1 x2 x3 : Int) (f0 f1 f2 f3 : Bool) : alu_work.f k 19 i1 i2 i3 i4 i5 i6 i7 i8 i9 x0 x1 x2 x3 f0 f1 f2 f3 = alu_worker_ands.f k 19 i1 i2 i3 i4 i5 i6 i7 i8 i9 x0 x1 x2 x3 f0 f1 f2 f3 := by
  unfold alu_work.f
  simp
theorem at_20 (k : Nat) (i1 i2 i3 i4 i5 i6 i7 i8 i9 x0 x1 x2 x3 : Int) (f0 f1 f2 f3 : Bool) : alu_work.f k 20 i1 i2 i3 i4 i5 i6 i7 i8 i9 x0 x1 x2 x3 f0 f1 f2 f3 = alu_worker_madd.f 20 i1 i2 i3 i4 i5 i6 i7 i8 i9 x0 x1 x2 x3 f0 f1 f2 f3 := by
  unfold alu_work.f
  simp
theorem at_21 (k : Nat) (i1 i2 i3 i4 i5 i6 i7 i8 i9 x0 x1 x2 x3 : Int) (f0 f1 f2 f3 : Bool) : alu_work.f k 21 i1 i2 i3 i4 i5 i6 i7 i8 i9 x0 x1 x2 x3 f0 f1 f2 f3 = alu_worker_msub.f 21 i1 i2 i3 i4 i5 i6 i7 i8 i9 x0 x1 x2 x3 f0 f1 f2 f3 := by
  unfold alu_work.f
  simp
theorem at_39 (k : Nat) (i1 i2 i3 i4 i5 i6 i7 i8 i9 x0 x1 x2 x3 : Int) (f0 f1 f2 f3 : Bool) : alu_work.f k 39 i1 i2 i3 i4 i5 i6 i7 i8 i9 x0 x1 x2 x3 f0 f1 f2 f3 = alu_worker_csel.f 39 i1 i2 i3 i4 i5 i6 i7 i8 i9 x0 x1 x2 x3 f0 f1 f2 f3 := by
  unfold alu_work.f
  simp
/-- What an operation makes that turns no flag. -/
theorem work_plain (k : Nat) (op i1 i2 i3 i4 i5 i6 i7 i8 i9 x0 x1 x2 x3 v : Int) (f0 f1 f2 f3 : Bool) (hk : 1 ≤ k) (hv : ∀ k f0 f1 f2 f3, 1 ≤ k → alu_worker_v.f k op i1 i2 i3 i4 i5 i6 i7 i8 i9 x0 x1 x2 x3 f0 f1 f2 f3 = some v) (h1 : 0 ≤ x1) (h2 : 0 ≤ v) (h8 : 0 ≤ i8) (hop : 1 ≤ op ∧ op ≤ 21 ∨ op = 39) (hn : op ≠ 6 ∧ op ≠ 7 ∧ op ≠ 11 ∧ op ≠ 14 ∧ op ≠ 15 ∧ op ≠ 19) : ∃ r, alu_work.f k op i1 i2 i3 i4 i5 i6 i7 i8 i9 x0 x1 x2 x3 f0 f1 f2 f3 = some (r, f0, f1, f2, f3) := by
  have hc : op = 1 ∨ op = 2 ∨ op = 3 ∨ op = 4 ∨ op = 5 ∨ op = 8 ∨ op = 9 ∨ op = 10 ∨ op = 12 ∨ op = 13 ∨ op = 16 ∨ op = 17 ∨ op = 18 ∨ op = 20 ∨ op = 21 ∨ op = 39 := by omega
  rcases hc with rfl | rfl | rfl | rfl | rfl | rfl | rfl | rfl | rfl | rfl | rfl | rfl | rfl | rfl | rfl | rfl
  · rw [at_1]; exact ⟨_, w_put k 1 i1 i2 i3 i4 i5 i6 i7 i8 i9 x0 x1 x2 x3 v f0 f1 f2 f3 hk hv⟩
  · rw [at_2]; exact w_not k 2 i1 i2 i3 i4 i5 i6 i7 i8 i9 x0 x1 x2 x3 v f0 f1 f2 f3 hk hv
  · rw [at_3]; exact w_keep k 3 i1 i2 i3 i4 i5 i6 i7 i8 i9 x0 x1 x2 x3 v f0 f1 f2 f3 hk hv h8
  · rw [at_4]; exact ⟨_, w_add k 4 i1 i2 i3 i4 i5 i6 i7 i8 i9 x0 x1 x2 x3 v f0 f1 f2 f3 hk hv h1 h2⟩
  · rw [at_5]; exact ⟨_, w_sub k 5 i1 i2 i3 i4 i5 i6 i7 i8 i9 x0 x1 x2 x3 v f0 f1 f2 f3 hk hv h1⟩
  · rw [at_8]; exact ⟨_, w_and k 8 i1 i2 i3 i4 i5 i6 i7 i8 i9 x0 x1 x2 x3 v f0 f1 f2 f3 hk hv⟩
  · rw [at_9]; exact ⟨_, w_orr k 9 i1 i2 i3 i4 i5 i6 i7 i8 i9 x0 x1 x2 x3 v f0 f1 f2 f3 hk hv⟩
  · rw [at_10]; exact ⟨_, w_eor k 10 i1 i2 i3 i4 i5 i6 i7 i8 i9 x0 x1 x2 x3 v f0 f1 f2 f3 hk hv⟩
  · rw [at_12]; exact ⟨_, w_add k 12 i1 i2 i3 i4 i5 i6 i7 i8 i9 x0 x1 x2 x3 v f0 f1 f2 f3 hk hv h1 h2⟩
  · rw [at_13]; exact ⟨_, w_sub k 13 i1 i2 i3 i4 i5 i6 i7 i8 i9 x0 x1 x2 x3 v f0 f1 f2 f3 hk hv h1⟩
  · rw [at_16]; exact ⟨_, w_and k 16 i1 i2 i3 i4 i5 i6 i7 i8 i9 x0 x1 x2 x3 v f0 f1 f2 f3 hk hv⟩
  · rw [at_17]; exact ⟨_, w_orr k 17 i1 i2 i3 i4 i5 i6 i7 i8 i9 x0 x1 x2 x3 v f0 f1 f2 f3 hk hv⟩
  · rw [at_18]; exact ⟨_, w_eor k 18 i1 i2 i3 i4 i5 i6 i7 i8 i9 x0 x1 x2 x3 v f0 f1 f2 f3 hk hv⟩
  · rw [at_20]; exact ⟨_, rfl⟩
  · rw [at_21]; exact ⟨_, rfl⟩
  · rw [at_39]; exact w_csel _ i1 i2 i3 i4 i5 i6 i7 i8 i9 x0 x1 x2 x3 f0 f1 f2 f3
end Go.Proofs.YtkmochnefidlmaaDoor.M
