/- Written for this claim by a program of this session: what the claim uses of lemmas and proved contracts of Go functions. -/
import Derived.Test.YtblnfngigdipcaaDoorZRenPx5
namespace Go.Proofs.YtblnfngigdipcaaDoor.M
open Go.RowKit Go.Proofs.YtblnfngigdipcaaDoor.P Go.Proofs.YtblnfngigdipcaaDoorW.PrintWords Go.Proofs.YtblnfngigdipcaaDoorW.PrintLast Go.Proofs.YtblnfngigdipcaaDoorW.PrintMore
set_option linter.unusedVariables false
set_option linter.unusedSimpArgs false
/-- The shape of an operation. -/
def shapeN (op : Int) : Nat := if op < 1 then 0 else if op > 39 then 0 else (inst_shape op.toNat).toNat
theorem shape_fin : ∀ n : Fin 40, (inst_shape n.val).toNat ≤ 16 ∧ 0 ≤ inst_shape n.val ∧ (1 ≤ n.val → 1 ≤ inst_shape n.val) := by decide +kernel
theorem shapeN_le (op : Int) : shapeN op ≤ 16 := by
  unfold shapeN
  split
  · omega
  · split
    · omega
    · exact (shape_fin ⟨op.toNat, by omega⟩).1
theorem shapeN_zero (op : Int) : shapeN op = 0 ↔ ¬ (1 ≤ op ∧ op ≤ 39) := by
  unfold shapeN
  split
  · omega
  · split
    · omega
    · have h := shape_fin ⟨op.toNat, by omega⟩
      have h3 := h.2.2 (by show 1 ≤ op.toNat; omega)
      simp only at h3
      omega
theorem shape_at (op : Int) : inst_Shape.f op = some ((shapeN op : Nat) : Int) := by
  unfold inst_Shape.f shapeN
  split
  · rfl
  · split
    · rfl
    · have h := (shape_fin ⟨op.toNat, by omega⟩).2.1
      simp only at h
      rw [Int.toNat_of_nonneg h]
theorem shapeOf_at (s : Nat) (h : s ≤ 16) : inst_shapeOf.f (s : Int) = some (inst_sh s) := by
  unfold inst_shapeOf.f
  rw [if_pos (by omega)]
  rfl
def regB (h : Bool) (v : Int) : Bool := if h then decide (0 ≤ v ∧ v ≤ 31) else v == 0
def stepB (lo hi m v : Int) : Bool := if m = 0 then v == 0 else decide (lo ≤ v ∧ v ≤ hi ∧ Int.tmod v m = 0)
theorem reg_at (h : Bool) (v : Int) : inst_register.f h v = some (regB h v) := by
  unfold inst_register.f regB
  cases h
  · by_cases h0 : v = 0
    · rw [if_pos h0, h0]; rfl
    · rw [if_neg h0]; simp [h0]
  · by_cases h0 : v = 0
    · subst h0; simp
    · rw [if_neg h0, if_pos rfl]
      by_cases h1 : v > 0
      · rw [if_pos h1]; congr 1; simp; omega
      · rw [if_neg h1]; congr 1; symm; simp; omega
theorem step_at (v lo hi m : Int) : inst_step.f v lo hi m = some (stepB lo hi m v) := by
  unfold inst_step.f stepB
  by_cases h0 : m = 0
  · rw [if_pos h0, if_pos h0]
  · rw [if_neg h0, if_neg h0]
    by_cases h1 : v ≥ lo
    · rw [if_pos h1]
      by_cases h2 : v ≤ hi
      · rw [if_pos h2]; congr 1
        rw [Bool.eq_iff_iff]
        simp; omega
      · rw [if_neg h2]; congr 1; symm; simp; omega
    · rw [if_neg h1]; congr 1; symm; simp; omega
/-- Is an instruction right? (mk: is its mask one?) -/
def okB (op d n m a imm mask shift amount cond : Int) (mk : Bool) : Bool :=
  let t := inst_sh (shapeN op)
  !(shapeN op == 0) && regB t.1 d && regB t.2.1 n && regB t.2.2.1 m && regB t.2.2.2.1 a && stepB t.2.2.2.2.1 t.2.2.2.2.2.1 t.2.2.2.2.2.2.1 imm && stepB 0 t.2.2.2.2.2.2.2.1 t.2.2.2.2.2.2.2.2.1 amount &&
  decide (0 ≤ shift ∧ shift ≤ t.2.2.2.2.2.2.2.2.2.1) && decide (0 ≤ cond ∧ cond ≤ t.2.2.2.2.2.2.2.2.2.2.1) && (if shapeN op = 3 then mk else mask == 0)
set_option maxHeartbeats 2000000 in
theorem is_at (k : Nat) (op d n m a imm mask shift amount cond : Int) (mk : Bool) (hm : mask_Is.f k mask = some mk) : inst_Is.f (k + 2) op d n m a imm mask shift amount cond = some (okB op d n m a imm mask shift amount cond mk) := by
  unfold inst_Is.f
  rw [shape_at, Option.bind_some]
  by_cases h0 : shapeN op = 0
  · rw [h0, if_pos (by rfl)]
    simp [okB, h0]
  · rw [if_neg (by omega), shapeOf_at _ (shapeN_le op), Option.bind_some]
    have hz : (shapeN op == 0) = false := by simp [h0]
    unfold okB
    simp only [hz, Bool.not_false, Bool.true_and]
    generalize ht : inst_sh (shapeN op) = t
    generalize shapeN op = s at *
    obtain ⟨t1, t2, t3, t4, t5, t6, t7, t8, t9, t10, t11, t12⟩ := t
    simp only
    rw [reg_at, Option.bind_some, reg_at, Option.bind_some, reg_at, Option.bind_some, reg_at, Option.bind_some]
    simp only [inst_Is.j0, step_at, Option.bind_some, inst_Is.j1, hm]
    generalize regB t1 d = b1
    generalize regB t2 n = b2
    generalize regB t3 m = b3
    generalize regB t4 a = b4
    generalize stepB t5 t6 t7 imm = b5
    generalize stepB 0 t8 t9 amount = b6
    have e3 : ((s : Int) = 3) = (s = 3) := by rw [eq_iff_iff]; omega
    simp only [e3]
    obtain ⟨b7, h7⟩ : ∃ b : Bool, (0 ≤ shift) = (b = true) := ⟨decide (0 ≤ shift), by simp⟩
    obtain ⟨b8, h8⟩ : ∃ b : Bool, (shift ≤ t10) = (b = true) := ⟨decide (shift ≤ t10), by simp⟩
    obtain ⟨b9, h9⟩ : ∃ b : Bool, (0 ≤ cond) = (b = true) := ⟨decide (0 ≤ cond), by simp⟩
    obtain ⟨b10, h10⟩ : ∃ b : Bool, (cond ≤ t11) = (b = true) := ⟨decide (cond ≤ t11), by simp⟩
    simp only [ge_iff_le, h7, h8, h9, h10]
    by_cases hs3 : s = 3 <;> simp only [hs3, if_true, if_false] <;> cases b1 <;> cases b2 <;> cases b3 <;> cases b4 <;> cases b5 <;> cases b6 <;> cases b7 <;> cases b8 <;> cases b9 <;> cases b10 <;> simp
end Go.Proofs.YtblnfngigdipcaaDoor.M
