/- Written for this claim by a program of this session: what the claim uses of lemmas and proved contracts of Go functions. -/
import Derived.Test.YtblnfngigdipcaaDoorZRenMInstA
import Derived.Test.YtblnfngigdipcaaDoorZRenMInstB
import Derived.Test.YtblnfngigdipcaaDoorZRenPx7
namespace Go.Proofs.YtblnfngigdipcaaDoor.M
open Go.RowKit Go.Proofs.YtblnfngigdipcaaDoor.P Go.Proofs.YtblnfngigdipcaaDoorW.PrintWords Go.Proofs.YtblnfngigdipcaaDoorW.PrintLast Go.Proofs.YtblnfngigdipcaaDoorW.PrintMore
set_option linter.unusedVariables false
set_option linter.unusedSimpArgs false
theorem index_loop (l : List Int) (v : Int) (h : l.length < 1000) : ∀ (n i k : Nat), l.length - i = n → i ≤ l.length → n + 1 ≤ k →
    ∃ r, slices_Index_int_int.l0 k l v (l.length : Int) (i : Int) = some r ∧ (r ≥ 0 ↔ v ∈ l.drop i)
  | 0, i, k, hn, hi, hk => by
    obtain ⟨k, rfl⟩ : ∃ m, k = m + 1 := ⟨k - 1, by omega⟩
    simp only [slices_Index_int_int.l0]
    rw [if_neg (by omega), List.drop_eq_nil_of_le (by omega)]
    exact ⟨_, rfl, by simp⟩
  | n + 1, i, k, hn, hi, hk => by
    obtain ⟨k, rfl⟩ : ∃ m, k = m + 1 := ⟨k - 1, by omega⟩
    have hd : l.drop i = rd l (i : Int) :: l.drop (i + 1) := by
      rw [List.drop_eq_getElem_cons (show i < l.length by omega)]
      congr 1
      show l[i] = l.getD ((i : Int).toNat) 0
      rw [Int.toNat_natCast, List.getD_eq_getElem?_getD, List.getElem?_eq_getElem (show i < l.length by omega)]
      rfl
    simp only [slices_Index_int_int.l0]
    rw [if_pos (by omega), if_pos (by omega), if_pos (by omega), hd]
    by_cases hv : v = rd l (i : Int)
    · rw [if_pos hv]
      exact ⟨_, rfl, by simp [hv]⟩
    · rw [if_neg hv, w64s _ (by omega) (by omega)]
      obtain ⟨r, h1, h2⟩ := index_loop l v h n (i + 1) k (by omega) (by omega) (by omega)
      exact ⟨r, h1, by rw [h2]; simp [hv]⟩
theorem contains_at (k : Nat) (l : List Int) (v : Int) (h : l.length < 1000) (hk : l.length + 1 ≤ k) : slices_Contains_int_int.f k l v = some (decide (v ∈ l)) := by
  obtain ⟨r, h1, h2⟩ := index_loop l v h l.length 0 k (by omega) (by omega) hk
  unfold slices_Contains_int_int.f slices_Index_int_int.f
  have e : slices_Index_int_int.l0 k l v (l.length : Int) 0 = some r := h1
  rw [e, Option.bind_some]
  congr 1
  rw [Bool.eq_iff_iff]
  simpa using h2
def keepB (op : Int) : Bool := decide (op ∈ [(23 : Int), 25, 32, 33])
theorem keeps_at (k : Nat) (hk : 5 ≤ k) (op : Int) : inst_keeps.f k op = some (keepB op) := by
  unfold inst_keeps.f
  rw [contains_at k _ op (by simp) (by simp; omega), Option.bind_some]
  rfl
def spB (op : Int) : Bool := decide (op ∈ [(4 : Int), 5, 8, 9, 10])
/-- What an instruction writes. -/
def wrV (ok : Bool) (op d : Int) : Int × Bool :=
  if ok = false ∨ keepB op = true then (0, false) else if op = 30 ∨ op = 35 then (30, true) else if (inst_sh (shapeN op)).1 = false ∨ (d = 31 ∧ spB op = false) then (0, false) else (d, true)
theorem writes_at (k : Nat) (hk : 10 ≤ k) (op d n m a imm mask shift amount cond : Int) (ok : Bool) (hI : inst_Is.f k op d n m a imm mask shift amount cond = some ok) : inst_Writes.f k op d n m a imm mask shift amount cond = some (wrV ok op d) := by
  obtain ⟨k, rfl⟩ : ∃ m, k = m + 3 := ⟨k - 3, by omega⟩
  unfold inst_Writes.f
  rw [contains_at _ _ op (by simp) (by simp; omega), Option.bind_some, hI, Option.bind_some]
  rw [show decide (op ∈ [(4 : Int), 5, 8, 9, 10]) = spB op from rfl]
  have hj1 : ∀ b : Bool, inst_Writes.j1 (k + 2) (spB op) b op d n m a imm mask shift amount cond = some (if b = true then (30, true) else if (inst_sh (shapeN op)).1 = false ∨ (d = 31 ∧ spB op = false) then (0, false) else (d, true)) := by
    intro b
    simp only [inst_Writes.j1, shape_at, Option.bind_some, shapeOf_at _ (shapeN_le op), inst_Writes.j2]
    cases b <;> cases (inst_sh (shapeN op)).1 <;> cases spB op <;> by_cases hd : d = 31 <;> simp [hd]
  have hj0 : ∀ b : Bool, inst_Writes.j0 (k + 3) (spB op) b op d n m a imm mask shift amount cond = some (if b = true then (0, false) else if op = 30 ∨ op = 35 then (30, true) else if (inst_sh (shapeN op)).1 = false ∨ (d = 31 ∧ spB op = false) then (0, false) else (d, true)) := by
    intro b
    simp only [inst_Writes.j0, hj1]
    cases b
    · by_cases h30 : op = 30
      · simp [h30]
      · by_cases h35 : op = 35 <;> simp [h30, h35]
    · simp
  unfold wrV
  cases ok
  · rw [if_neg (by decide), hj0]; simp
  · rw [if_pos rfl, keeps_at _ (by omega), Option.bind_some, hj0]
    cases keepB op <;> simp
/-- What an instruction's registers gather, before they are sorted. -/
def rdL (op d n m a : Int) : List Int := reads_all (inst_sh (shapeN op)).1 (inst_sh (shapeN op)).2.1 (inst_sh (shapeN op)).2.2.1 (inst_sh (shapeN op)).2.2.2.1 (inst_sh (shapeN op)).2.2.2.2.2.2.2.2.2.2.2 (keepB op) op d n m a
def rdV (ok : Bool) (op d n m a : Int) : List Int := if ok = true then Lib.compact ((rdL op d n m a).mergeSort fun x y => decide (x ≤ y)) else []
theorem reads_at (k : Nat) (hk : 5 ≤ k) (op d n m a imm mask shift amount cond : Int) (ok : Bool) (hI : inst_Is.f k op d n m a imm mask shift amount cond = some ok) : inst_Reads.f k op d n m a imm mask shift amount cond = some (rdV ok op d n m a) := by
  unfold inst_Reads.f rdV
  rw [hI, Option.bind_some]
  cases ok
  · rfl
  · rw [if_pos rfl, if_pos rfl, shape_at, Option.bind_some, shapeOf_at _ (shapeN_le op), Option.bind_some, keeps_at k hk, Option.bind_some]
    rfl
def rput (c : Bool) (v : Int) (l : List Int) : List Int := if c = true then insR v false l else l
theorem rput_len (c : Bool) (v : Int) (l : List Int) : (rput c v l).length ≤ l.length + 1 := by unfold rput; split; exact insR_len v l false; omega
theorem rput_mem (c : Bool) (v : Int) (l : List Int) (x : Int) : x ∈ rput c v l ↔ (c = true ∧ x = v) ∨ x ∈ l := by
  unfold rput
  cases c
  · simp
  · simp [insR_mem]
theorem rput_lt (c : Bool) (v : Int) (l : List Int) (h : l.Pairwise (· < ·)) : (rput c v l).Pairwise (· < ·) := by
  unfold rput
  split
  · exact insR_lt v l h
  · exact h
theorem reads_put_mem (has : Bool) (v : Int) (sp : Bool) (l : List Int) (x : Int) : x ∈ reads_put has v sp l ↔ ((has && (decide (v < 31) || sp)) = true ∧ x = v) ∨ x ∈ l := by
  unfold reads_put
  by_cases h : has = true ∧ (v < 31 ∨ sp = true)
  · rw [if_pos h]
    have : (has && (decide (v < 31) || sp)) = true := by simpa using h
    rw [this]
    simp [or_comm]
  · rw [if_neg h]
    have : (has && (decide (v < 31) || sp)) = false := by
      rw [← Bool.not_eq_true]; simpa using h
    rw [this]
    simp
def refR (op d n m a : Int) : List Int :=
  rput (op == 37) 0 (rput (decide (d < 31) && (keepB op || op == 3)) d (rput ((inst_sh (shapeN op)).2.2.2.1 && decide (a < 31)) a (rput ((inst_sh (shapeN op)).2.2.1 && decide (m < 31)) m (rput ((inst_sh (shapeN op)).2.1 && (decide (n < 31) || (inst_sh (shapeN op)).2.2.2.2.2.2.2.2.2.2.2)) n []))))
theorem refR_lt (op d n m a : Int) : (refR op d n m a).Pairwise (· < ·) := rput_lt _ _ _ (rput_lt _ _ _ (rput_lt _ _ _ (rput_lt _ _ _ (rput_lt _ _ _ List.Pairwise.nil))))
theorem refR_len (op d n m a : Int) : (refR op d n m a).length ≤ 5 := by
  unfold refR
  refine Nat.le_trans (rput_len _ _ _) (Nat.succ_le_succ (Nat.le_trans (rput_len _ _ _) (Nat.succ_le_succ (Nat.le_trans (rput_len _ _ _) (Nat.succ_le_succ (Nat.le_trans (rput_len _ _ _) (Nat.succ_le_succ (rput_len _ _ _))))))))
theorem rd_mem (op d n m a x : Int) : x ∈ rdL op d n m a ↔ x ∈ refR op d n m a := by
  unfold rdL refR reads_all
  simp only [reads_put_mem, rput_mem, Bool.or_false, show decide ((0 : Int) < 31) = true by decide, Bool.and_true]
  rw [Bool.and_comm (decide (d < 31))]
theorem rdV_eq (ok : Bool) (op d n m a : Int) : rdV ok op d n m a = if ok = true then refR op d n m a else [] := by
  unfold rdV
  cases ok
  · rfl
  · rw [if_pos rfl, if_pos rfl]
    have h := sortc_spec (rdL op d n m a)
    exact rising_eq _ _ h.2 (refR_lt op d n m a) fun x => (h.1 x).trans (rd_mem op d n m a x)
end Go.Proofs.YtblnfngigdipcaaDoor.M
