/- Written for this claim by a program of this session: what the claim uses of lemmas and proved contracts of Go functions. -/
import Derived.Test.YtbklmlbmbnnjkaaDoorZDoesMInstM
import Derived.Test.YtbklmlbmbnnjkaaDoorZDoesMInstF
import Derived.Test.YtbklmlbmbnnjkaaDoorZDoesRx12
import Derived.Test.YtbklmlbmbnnjkaaDoorZDoesRx13
import Derived.Test.YtbklmlbmbnnjkaaDoorZDoesRx15
import Derived.Test.YtbklmlbmbnnjkaaDoorZDoesRx16
namespace Go.Proofs.YtbklmlbmbnnjkaaDoor.M
open Go.RowKit Go.Proofs.YtbklmlbmbnnjkaaDoor.R Go.Proofs.YtbklmlbmbnnjkaaDoorW.PrintWords Go.Proofs.YtbklmlbmbnnjkaaDoorW.PrintLast Go.Proofs.YtbklmlbmbnnjkaaDoorW.PrintMore
set_option linter.unusedVariables false
set_option linter.unusedSimpArgs false
def hasAll (s : Nat) : Bool :=
  decide (cleatref04_Has.f 8 (s : Int) ⟨#[100]⟩ = some (inst_sh s).1) && decide (cleatref04_Has.f 8 (s : Int) ⟨#[110]⟩ = some (inst_sh s).2.1) && decide (cleatref04_Has.f 8 (s : Int) ⟨#[109]⟩ = some (inst_sh s).2.2.1) &&
  decide (cleatref04_Has.f 8 (s : Int) ⟨#[97]⟩ = some (inst_sh s).2.2.2.1) && decide (cleatref04_Has.f 8 (s : Int) ⟨#[99]⟩ = some (decide (0 < (inst_sh s).2.2.2.2.2.2.2.2.2.2.1)))
theorem has_fin : ∀ s : Fin 17, hasAll s.val = true := by decide +kernel
theorem has_at (k : Nat) (hk : 8 ≤ k) (s : Nat) (hs : s ≤ 16) : cleatref04_Has.f k (s : Int) ⟨#[100]⟩ = some (inst_sh s).1 ∧ cleatref04_Has.f k (s : Int) ⟨#[110]⟩ = some (inst_sh s).2.1 ∧ cleatref04_Has.f k (s : Int) ⟨#[109]⟩ = some (inst_sh s).2.2.1 ∧
    cleatref04_Has.f k (s : Int) ⟨#[97]⟩ = some (inst_sh s).2.2.2.1 ∧ cleatref04_Has.f k (s : Int) ⟨#[99]⟩ = some (decide (0 < (inst_sh s).2.2.2.2.2.2.2.2.2.2.1)) := by
  have h := has_fin ⟨s, by omega⟩
  simp only [hasAll, Bool.and_eq_true, decide_eq_true_eq] at h
  obtain ⟨⟨⟨⟨h1, h2⟩, h3⟩, h4⟩, h5⟩ := h
  have up : ∀ (c : ByteArray) (r : Bool), cleatref04_Has.f 8 (s : Int) c = some r → cleatref04_Has.f k (s : Int) c = some r := fun c r h => at_rounds (g := fun k => cleatref04_Has.f k (s : Int) c) (cleatref04_Has.mono _ _) hk h
  exact ⟨up _ _ h1, up _ _ h2, up _ _ h3, up _ _ h4, up _ _ h5⟩
theorem ref_reg_at (k : Nat) (s : Int) (c : ByteArray) (v : Int) (h : Bool) (hh : cleatref04_Has.f k s c = some h) : cleatref04_reg.f k s c v = some (regB h v) := by
  unfold cleatref04_reg.f regB
  rw [hh, Option.bind_some]
  cases h
  · simp
  · rw [if_pos rfl]
    by_cases h1 : v ≥ 0
    · rw [if_pos h1]; congr 1; simp; omega
    · rw [if_neg h1]; congr 1; symm; simp; omega
theorem btw_at (v lo hi m : Int) (h0 : m ≠ 0) : cleatref04_between.f v lo hi m = some (stepB lo hi m v) := by
  unfold cleatref04_between.f stepB
  rw [if_neg h0]
  by_cases h1 : v ≥ lo
  · rw [if_pos h1]
    by_cases h2 : v ≤ hi
    · rw [if_pos h2]; rw [if_neg h0]; congr 1
      rw [Bool.eq_iff_iff]
      simp; omega
    · rw [if_neg h2, if_neg h0]; congr 1; symm; simp; omega
  · rw [if_neg h1, if_neg h0]; congr 1; symm; simp; omega
theorem sh_cases {s : Nat} (h : s ≤ 16) : s = 0 ∨ s = 1 ∨ s = 2 ∨ s = 3 ∨ s = 4 ∨ s = 5 ∨ s = 6 ∨ s = 7 ∨ s = 8 ∨ s = 9 ∨ s = 10 ∨ s = 11 ∨ s = 12 ∨ s = 13 ∨ s = 14 ∨ s = 15 ∨ s = 16 := by omega
theorem imm_at (k : Nat) (hk : 3 ≤ k) (s : Nat) (hs : s ≤ 16) (v : Int) : cleatref04_imm.f k (s : Int) v = some (stepB (inst_sh s).2.2.2.2.1 (inst_sh s).2.2.2.2.2.1 (inst_sh s).2.2.2.2.2.2.1 v) := by
  obtain ⟨k, rfl⟩ : ∃ m, k = m + 3 := ⟨k - 3, by omega⟩
  rcases sh_cases hs with rfl | rfl | rfl | rfl | rfl | rfl | rfl | rfl | rfl | rfl | rfl | rfl | rfl | rfl | rfl | rfl | rfl
  all_goals simp [cleatref04_imm.f, cleatref04_imm.j0, cleatref04_imm.j1, cleatref04_imm.j2, btw_at, inst_sh, inst_shL]
  all_goals simp [stepB]
theorem amount_at (k : Nat) (hk : 1 ≤ k) (s : Nat) (hs : s ≤ 16) (v : Int) : cleatref04_amount.f k (s : Int) v = some (stepB 0 (inst_sh s).2.2.2.2.2.2.2.1 (inst_sh s).2.2.2.2.2.2.2.2.1 v) := by
  obtain ⟨k, rfl⟩ : ∃ m, k = m + 1 := ⟨k - 1, by omega⟩
  rcases sh_cases hs with rfl | rfl | rfl | rfl | rfl | rfl | rfl | rfl | rfl | rfl | rfl | rfl | rfl | rfl | rfl | rfl | rfl
  all_goals simp [cleatref04_amount.f, cleatref04_amount.j0, btw_at, inst_sh, inst_shL]
  all_goals simp [stepB]
theorem tab_fin : ∀ s : Fin 17, ((inst_sh s.val).2.2.2.2.2.2.2.2.2.2.1 = 0 ∨ (inst_sh s.val).2.2.2.2.2.2.2.2.2.2.1 = 13) ∧ (inst_sh s.val).2.2.2.2.2.2.2.2.2.1 = if s.val = 4 then 2 else if s.val = 5 then 3 else 0 := by decide +kernel
section
variable (k : Nat) (s : Nat) (hs : s ≤ 16) (hk : 8 ≤ k) (op d n m a imm mask shift amount cond : Int) (mk : Bool) (hm : cleatref02_Is.f (k + 1) mask = some mk)
include hs hk
abbrev immS (s : Nat) (v : Int) : Bool := stepB (inst_sh s).2.2.2.2.1 (inst_sh s).2.2.2.2.2.1 (inst_sh s).2.2.2.2.2.2.1 v
abbrev amtS (s : Nat) (v : Int) : Bool := stepB 0 (inst_sh s).2.2.2.2.2.2.2.1 (inst_sh s).2.2.2.2.2.2.2.2.1 v
theorem ref_is_j3 (x4 x5 x6 : Bool) : cleatref04_Is.j3 (k + 1) (s : Int) x4 x5 x6 op d n m a imm mask shift amount cond = some (immS s imm && amtS s amount && x4 && x5 && x6) := by
  simp only [cleatref04_Is.j3, imm_at k (by omega) s hs, amount_at k (by omega) s hs, Option.bind_some]
  cases h1 : immS s imm <;> cases h2 : amtS s amount <;> cases x4 <;> cases x5 <;> simp_all
include hm
theorem ref_is_j2 (x4 x5 : Bool) : cleatref04_Is.j2 (k + 2) (s : Int) x4 x5 op d n m a imm mask shift amount cond = some (immS s imm && amtS s amount && x4 && x5 && (if s = 3 then mk else mask == 0)) := by
  simp only [cleatref04_Is.j2]
  by_cases h3 : s = 3
  · rw [if_pos (by omega), hm, Option.bind_some, ref_is_j3 k s hs hk, ref_is_j3 k s hs hk, if_pos h3]
    cases mk <;> simp
  · rw [if_neg (by omega), ref_is_j3 k s hs hk, if_neg h3]
theorem ref_is_j1 (x4 : Bool) : cleatref04_Is.j1 (k + 3) (s : Int) x4 op d n m a imm mask shift amount cond = some (immS s imm && amtS s amount && x4 && decide (0 ≤ cond ∧ cond ≤ (inst_sh s).2.2.2.2.2.2.2.2.2.2.1) && (if s = 3 then mk else mask == 0)) := by
  have ht := (tab_fin ⟨s, by omega⟩).1
  simp only at ht
  simp only [cleatref04_Is.j1, (has_at (k + 2) (by omega) s hs).2.2.2.2, Option.bind_some, ref_is_j2 k s hs hk op d n m a imm mask shift amount _ mk hm]
  generalize (inst_sh s).2.2.2.2.2.2.2.2.2.2.1 = t at *
  by_cases h0 : cond = 0
  · subst h0
    rw [if_pos rfl]
    rw [decide_eq_true (show (0 : Int) ≤ 0 ∧ 0 ≤ t by omega)]
  · rw [if_neg h0]
    rcases ht with rfl | rfl
    · rw [if_neg (by simp), decide_eq_false (show ¬ (0 ≤ cond ∧ cond ≤ 0) by omega)]
    · rw [if_pos (by simp)]
      by_cases h1 : cond ≥ 0
      · rw [if_pos h1, show decide (0 ≤ cond ∧ cond ≤ 13) = decide (cond ≤ 13) by rw [Bool.eq_iff_iff]; simp; omega]
      · rw [if_neg h1, decide_eq_false (show ¬ (0 ≤ cond ∧ cond ≤ 13) by omega)]
theorem ref_is_j0 (bad : Bool) : cleatref04_Is.j0 (k + 4) (s : Int) bad op d n m a imm mask shift amount cond = some (!bad && (immS s imm && amtS s amount && decide (0 ≤ shift ∧ shift ≤ (inst_sh s).2.2.2.2.2.2.2.2.2.1) && decide (0 ≤ cond ∧ cond ≤ (inst_sh s).2.2.2.2.2.2.2.2.2.2.1) && (if s = 3 then mk else mask == 0))) := by
  have ht := (tab_fin ⟨s, by omega⟩).2
  simp only at ht
  have h1 := fun x4 => ref_is_j1 k s hs hk op d n m a imm mask shift amount cond mk hm x4
  simp only [cleatref04_Is.j0, h1]
  have e4 : ((s : Int) = 4) = (s = 4) := by rw [eq_iff_iff]; omega
  have e5 : ((s : Int) = 5) = (s = 5) := by rw [eq_iff_iff]; omega
  simp only [e4, e5, ht]
  have goal : ∀ (x y : Bool), x = y → some (immS s imm && amtS s amount && x && decide (0 ≤ cond ∧ cond ≤ (inst_sh s).2.2.2.2.2.2.2.2.2.2.1) && (if s = 3 then mk else mask == 0)) = some (immS s imm && amtS s amount && y && decide (0 ≤ cond ∧ cond ≤ (inst_sh s).2.2.2.2.2.2.2.2.2.2.1) && (if s = 3 then mk else mask == 0)) := fun x y h => by rw [h]
  cases bad
  · rw [if_neg (by decide), Bool.not_false, Bool.true_and]
    by_cases h0 : shift = 0
    · subst h0
      rw [if_pos rfl]
      refine goal _ _ (decide_eq_true ⟨Int.le_refl _, ?_⟩).symm
      split
      · decide
      · split <;> decide
    · rw [if_neg h0]
      by_cases h4 : s = 4
      · subst h4
        simp only [if_true]
        rw [if_neg (show ¬ (4 = 5) by decide), if_neg (show ¬ (4 = 5) by decide)]
        by_cases c1 : shift ≥ 0
        · rw [if_pos c1]
          by_cases c2 : shift ≤ 2
          · rw [if_pos c2]; exact goal _ _ (decide_eq_true ⟨c1, c2⟩).symm
          · rw [if_neg c2]; exact goal _ _ (decide_eq_false (by omega)).symm
        · rw [if_neg c1]; exact goal _ _ (decide_eq_false (by omega)).symm
      · rw [if_neg h4, if_neg h4]
        by_cases h5 : s = 5
        · rw [if_pos h5, if_pos h5]
          by_cases c1 : shift ≥ 0
          · rw [if_pos c1]; refine goal _ _ ?_
            rw [Bool.eq_iff_iff]; simp; omega
          · rw [if_neg c1]; exact goal _ _ (decide_eq_false (by omega)).symm
        · rw [if_neg h5, if_neg h5]
          exact goal _ _ (decide_eq_false (by omega)).symm
  · rw [if_pos rfl]; simp
end
theorem ref_is_at (k : Nat) (hk : 8 ≤ k) (op d n m a imm mask shift amount cond : Int) (mk : Bool) (hm : cleatref02_Is.f (k + 1) mask = some mk) : cleatref04_Is.f (k + 4) op d n m a imm mask shift amount cond = some (okB op d n m a imm mask shift amount cond mk) := by
  unfold cleatref04_Is.f
  have hs := shapeN_le op
  rw [ref_shape_at _ (by omega), Option.bind_some]
  by_cases h0 : shapeN op = 0
  · rw [h0, if_pos (by rfl)]
    have := ref_is_j0 k 0 (by omega) hk op d n m a imm mask shift amount cond mk hm true
    rw [this]
    simp [okB, h0]
  · rw [if_neg (by omega)]
    have hz : (shapeN op == 0) = false := by simp [h0]
    unfold okB
    simp only [hz, Bool.not_false, Bool.true_and]
    generalize shapeN op = s at *
    obtain ⟨p1, p2, p3, p4, _⟩ := has_at (k + 4) (by omega) s hs
    rw [ref_reg_at _ _ _ d _ p1, Option.bind_some, ref_reg_at _ _ _ n _ p2, Option.bind_some, ref_reg_at _ _ _ m _ p3, Option.bind_some, ref_reg_at _ _ _ a _ p4, Option.bind_some]
    have h1 := fun bad => ref_is_j0 k s hs hk op d n m a imm mask shift amount cond mk hm bad
    simp only [h1]
    generalize regB (inst_sh s).1 d = b1
    generalize regB (inst_sh s).2.1 n = b2
    generalize regB (inst_sh s).2.2.1 m = b3
    generalize regB (inst_sh s).2.2.2.1 a = b4
    cases b1 <;> cases b2 <;> cases b3 <;> cases b4 <;> simp
theorem with_loop (l : List Int) (v : Int) (h : l.length < 1000) : ∀ (n i k : Nat) (out : List Int) (b : Bool), l.length - i = n → i ≤ l.length → out.length ≤ 2 * i → 2 * n + 1 ≤ k →
    cleatref04_with.l0 k l v out b (i : Int) = some (out ++ insR v b (l.drop i))
  | 0, i, k, out, b, hn, hi, ho, hk => by
    obtain ⟨k, rfl⟩ : ∃ m, k = m + 1 := ⟨k - 1, by omega⟩
    simp only [cleatref04_with.l0]
    rw [if_neg (by omega), List.drop_eq_nil_of_le (by omega)]
    cases b
    · rw [if_neg (by decide), if_pos (by omega)]; rfl
    · rw [if_pos rfl]; simp [insR]
  | n + 1, i, k, out, b, hn, hi, ho, hk => by
    obtain ⟨k, rfl⟩ : ∃ m, k = m + 2 := ⟨k - 2, by omega⟩
    have hd : l.drop i = rd l (i : Int) :: l.drop (i + 1) := by
      rw [List.drop_eq_getElem_cons (show i < l.length by omega)]
      congr 1
      show l[i] = l.getD ((i : Int).toNat) 0
      rw [Int.toNat_natCast, List.getD_eq_getElem?_getD, List.getElem?_eq_getElem (show i < l.length by omega)]
      rfl
    rw [hd]
    have hw : wrap64 ((i : Int) + 1) = ((i + 1 : Nat) : Int) := by rw [w64s _ (by omega) (by omega)]; omega
    have ih := fun (o : List Int) (b : Bool) (ho : o.length ≤ 2 * (i + 1)) => with_loop l v h n (i + 1) k o b (by omega) (by omega) ho (by omega)
    have st : ∀ (c : Bool), cleatref04_with.j1 (k + 1) l v out b (i : Int) c = some (out ++ ((if c = true then [v] else []) ++ rd l (i : Int) :: insR v (b || decide (v ≤ rd l (i : Int))) (l.drop (i + 1)))) := by
      intro c
      simp only [cleatref04_with.j1]
      cases c <;> cases b <;> simp only [if_true, Option.bind_some, hw, Bool.true_or, Bool.false_or, if_neg (show ¬ (false = true) by decide)]
      all_goals simp only [if_pos (show (0 : Int) ≤ (i : Int) by omega), if_pos (show (i : Int) < (l.length : Int) by omega), if_pos (show out.length < 17592186044416 by omega), if_pos (show (out ++ [v]).length < 17592186044416 by simp; omega)]
      all_goals rw [ih _ _ (by simp; omega)]
      all_goals simp
    simp only [cleatref04_with.l0]
    rw [if_pos (by omega)]
    cases b
    · rw [if_neg (by decide), if_pos (by omega), st, insR_cons]
      by_cases hv : v < rd l (i : Int)
      · simp [hv]
      · simp [hv]
    · rw [if_pos rfl, st, insR_cons]
      simp
theorem with_at (k : Nat) (l : List Int) (v : Int) (h : l.length < 1000) (hk : 2 * l.length + 1 ≤ k) : cleatref04_with.f k l v = some (insR v false l) := by
  unfold cleatref04_with.f
  have := with_loop l v h l.length 0 k [] false (by omega) (by omega) (by simp) (by omega)
  simpa using this
theorem ref_writes_at (k : Nat) (hk : 20 ≤ k) (op d n m a imm mask shift amount cond : Int) (ok : Bool) (hI : cleatref04_Is.f k op d n m a imm mask shift amount cond = some ok) : cleatref04_Writes.f k op d n m a imm mask shift amount cond = some (wrV ok op d) := by
  obtain ⟨k, rfl⟩ : ∃ m, k = m + 4 := ⟨k - 4, by omega⟩
  unfold cleatref04_Writes.f
  rw [hI, Option.bind_some]
  have hj2 : ∀ b : Bool, cleatref04_Writes.j2 (k + 2) b op d n m a imm mask shift amount cond = some (if (inst_sh (shapeN op)).1 = false ∨ (d = 31 ∧ b = false) then (0, false) else (d, true)) := by
    intro b
    simp only [cleatref04_Writes.j2, ref_shape_at (k + 1) (by omega), Option.bind_some, (has_at (k + 1) (by omega) _ (shapeN_le op)).1, cleatref04_Writes.j3]
    cases b <;> cases (inst_sh (shapeN op)).1 <;> by_cases hd : d = 31 <;> simp [hd]
  have hj1 : ∀ b : Bool, cleatref04_Writes.j1 (k + 3) b op d n m a imm mask shift amount cond = some (if b = true then (30, true) else if (inst_sh (shapeN op)).1 = false ∨ (d = 31 ∧ spB op = false) then (0, false) else (d, true)) := by
    intro b
    simp only [cleatref04_Writes.j1, hj2]
    have hs : spB op = (decide (op = 4) || decide (op = 5) || decide (op = 8) || decide (op = 9) || decide (op = 10)) := by unfold spB; rw [Bool.eq_iff_iff]; simp [or_assoc]
    rw [hs]
    cases b
    · by_cases h4 : op = 4
      · simp [h4]
      · by_cases h5 : op = 5
        · simp [h5]
        · by_cases h8 : op = 8
          · simp [h8]
          · by_cases h9 : op = 9
            · simp [h9]
            · simp [h4, h5, h8, h9]
    · simp
  have hj0 : ∀ b : Bool, cleatref04_Writes.j0 (k + 4) b op d n m a imm mask shift amount cond = some (if b = true then (0, false) else if op = 30 ∨ op = 35 then (30, true) else if (inst_sh (shapeN op)).1 = false ∨ (d = 31 ∧ spB op = false) then (0, false) else (d, true)) := by
    intro b
    simp only [cleatref04_Writes.j0, hj1]
    cases b
    · by_cases h30 : op = 30
      · simp [h30]
      · by_cases h35 : op = 35 <;> simp [h30, h35]
    · simp
  have hkB : keepB op = (decide (op = 23) || decide (op = 25) || decide (op = 32) || decide (op = 33)) := by unfold keepB; rw [Bool.eq_iff_iff]; simp [or_assoc]
  unfold wrV
  rw [hkB]
  cases ok
  · rw [if_neg (by decide), hj0]; simp
  · rw [if_pos rfl]
    simp only [hj0]
    by_cases h4 : op = 23
    · simp [h4]
    · by_cases h5 : op = 25
      · simp [h5]
      · by_cases h8 : op = 32
        · simp [h8]
        · simp [h4, h5, h8]
theorem stack_fin : ∀ s : Fin 17, (inst_sh s.val).2.2.2.2.2.2.2.2.2.2.2 = (decide (s.val = 2) || decide (s.val = 7) || decide (s.val = 8)) := by decide +kernel
theorem ref_reads_at (k : Nat) (hk : 30 ≤ k) (op d n m a imm mask shift amount cond : Int) (ok : Bool) (hI : cleatref04_Is.f k op d n m a imm mask shift amount cond = some ok) : cleatref04_Reads.f k op d n m a imm mask shift amount cond = some (rdV ok op d n m a) := by
  obtain ⟨k, rfl⟩ : ∃ m, k = m + 8 := ⟨k - 8, by omega⟩
  have hs := shapeN_le op
  rw [rdV_eq]
  unfold cleatref04_Reads.f
  rw [hI, Option.bind_some]
  cases ok
  · rfl
  rw [if_pos rfl, if_pos rfl, ref_shape_at _ (by omega), Option.bind_some]
  unfold refR
  generalize hsn : shapeN op = s at *
  have hw : ∀ (j : Nat) (l : List Int) (v : Int), 20 ≤ j → l.length ≤ 5 → cleatref04_with.f j l v = some (insR v false l) := fun j l v h1 h2 => with_at j l v (by omega) (by omega)
  have hj7 : ∀ l : List Int, l.length ≤ 4 → cleatref04_Reads.j7 (k + 1) l op d n m a imm mask shift amount cond = some (rput (op == 37) 0 l) := by
    intro l hl
    simp only [cleatref04_Reads.j7, hw k l 0 (by omega) (by omega), Option.bind_some]
    unfold rput
    by_cases h : op = 37 <;> simp [h]
  have hj6 : ∀ (l : List Int) (b : Bool), l.length ≤ 3 → cleatref04_Reads.j6 (k + 2) l b op d n m a imm mask shift amount cond = some (rput (op == 37) 0 (rput b d l)) := by
    intro l b hl
    simp only [cleatref04_Reads.j6, hw (k + 1) l d (by omega) (by omega), Option.bind_some]
    cases b
    · rw [if_neg (by decide), hj7 l (by omega)]; rfl
    · rw [if_pos rfl, hj7 _ (by have := insR_len d l false; omega)]; rfl
  have hkB : keepB op = (decide (op = 23) || decide (op = 25) || decide (op = 32) || decide (op = 33)) := by unfold keepB; rw [Bool.eq_iff_iff]; simp [or_assoc]
  have hj5 : ∀ (l : List Int), l.length ≤ 3 → cleatref04_Reads.j5 (k + 3) l op d n m a imm mask shift amount cond = some (rput (op == 37) 0 (rput (decide (d < 31) && (keepB op || op == 3)) d l)) := by
    intro l hl
    simp only [cleatref04_Reads.j5, hj6 l _ hl]
    rw [hkB]
    by_cases h31 : d < 31
    · by_cases h3 : op = 3
      · simp [h31, h3]
      · by_cases h4 : op = 23
        · simp [h31, h4]
        · by_cases h5 : op = 25
          · simp [h31, h5]
          · by_cases h8 : op = 32
            · simp [h31, h8]
            · by_cases h9 : op = 33
              · simp [h31, h9]
              · simp [h31, h3, h4, h5, h8, h9, show (op == 33) = false by simpa using h9, show (op == 3) = false by simpa using h3]
    · simp [h31]
  have hj4 : ∀ (l : List Int) (b : Bool), l.length ≤ 2 → cleatref04_Reads.j4 (k + 4) l b op d n m a imm mask shift amount cond = some (rput (op == 37) 0 (rput (decide (d < 31) && (keepB op || op == 3)) d (rput b a l))) := by
    intro l b hl
    simp only [cleatref04_Reads.j4, hw (k + 3) l a (by omega) (by omega), Option.bind_some]
    cases b
    · rw [if_neg (by decide), hj5 l (by omega)]; rfl
    · rw [if_pos rfl, hj5 _ (by have := insR_len a l false; omega)]; rfl
  have hj3 : ∀ (l : List Int), l.length ≤ 2 → cleatref04_Reads.j3 (k + 5) (s : Int) l op d n m a imm mask shift amount cond = some (rput (op == 37) 0 (rput (decide (d < 31) && (keepB op || op == 3)) d (rput ((inst_sh s).2.2.2.1 && decide (a < 31)) a l))) := by
    intro l hl
    simp only [cleatref04_Reads.j3, (has_at (k + 4) (by omega) s hs).2.2.2.1, Option.bind_some, hj4 l _ hl]
    cases (inst_sh s).2.2.2.1 <;> simp
  have hj2 : ∀ (l : List Int) (b : Bool), l.length ≤ 1 → cleatref04_Reads.j2 (k + 6) (s : Int) l b op d n m a imm mask shift amount cond = some (rput (op == 37) 0 (rput (decide (d < 31) && (keepB op || op == 3)) d (rput ((inst_sh s).2.2.2.1 && decide (a < 31)) a (rput b m l)))) := by
    intro l b hl
    simp only [cleatref04_Reads.j2, hw (k + 5) l m (by omega) (by omega), Option.bind_some]
    cases b
    · rw [if_neg (by decide), hj3 l (by omega)]; rfl
    · rw [if_pos rfl, hj3 _ (by have := insR_len m l false; omega)]; rfl
  have hj1 : ∀ (l : List Int), l.length ≤ 1 → cleatref04_Reads.j1 (k + 7) (s : Int) l op d n m a imm mask shift amount cond = some (rput (op == 37) 0 (rput (decide (d < 31) && (keepB op || op == 3)) d (rput ((inst_sh s).2.2.2.1 && decide (a < 31)) a (rput ((inst_sh s).2.2.1 && decide (m < 31)) m l)))) := by
    intro l hl
    simp only [cleatref04_Reads.j1, (has_at (k + 6) (by omega) s hs).2.2.1, Option.bind_some, hj2 l _ hl]
    cases (inst_sh s).2.2.1 <;> simp
  have hj0 : ∀ (b : Bool), cleatref04_Reads.j0 (k + 8) (s : Int) [] b op d n m a imm mask shift amount cond = some (rput (op == 37) 0 (rput (decide (d < 31) && (keepB op || op == 3)) d (rput ((inst_sh s).2.2.2.1 && decide (a < 31)) a (rput ((inst_sh s).2.2.1 && decide (m < 31)) m (rput b n []))))) := by
    intro b
    simp only [cleatref04_Reads.j0, hw (k + 7) [] n (by omega) (by simp), Option.bind_some]
    cases b
    · rw [if_neg (by decide), hj1 [] (by simp)]; rfl
    · rw [if_pos rfl, hj1 _ (by have := insR_len n [] false; simpa using this)]; rfl
  have hst := stack_fin ⟨s, by omega⟩
  simp only at hst
  rw [hst, (has_at (k + 8) (by omega) s hs).2.1, Option.bind_some]
  simp only [hj0]
  have e2 : ((s : Int) = 2) = (s = 2) := by rw [eq_iff_iff]; omega
  have e7 : ((s : Int) = 7) = (s = 7) := by rw [eq_iff_iff]; omega
  have e8 : ((s : Int) == 8) = decide (s = 8) := by rw [Bool.eq_iff_iff]; simp; omega
  simp only [e2, e7, e8]
  cases (inst_sh s).2.1
  · simp
  · by_cases h31 : n < 31
    · simp [h31]
    · by_cases h2 : s = 2
      · simp [h2]
      · by_cases h7 : s = 7
        · simp [h7]
        · simp [h31, h2, h7]
theorem inst_all (op d n m a imm mask shift amount cond : Int) (wm : (Lit.int .u64 mask).wf = true) : ∃ mk : Bool, ∀ k, 710 ≤ k → mask_Is.f k mask = some mk ∧ inst_Is.f k op d n m a imm mask shift amount cond = some (okB op d n m a imm mask shift amount cond mk) ∧ cleatref04_Is.f k op d n m a imm mask shift amount cond = some (okB op d n m a imm mask shift amount cond mk) := by
  obtain ⟨mk, h⟩ := masks_all mask wm
  refine ⟨mk, fun k hk => ⟨(h k (by omega)).1, ?_, ?_⟩⟩
  · obtain ⟨k, rfl⟩ : ∃ m, k = m + 2 := ⟨k - 2, by omega⟩
    exact is_at k _ _ _ _ _ _ _ _ _ _ mk (h k (by omega)).1
  · obtain ⟨k, rfl⟩ : ∃ m, k = m + 4 := ⟨k - 4, by omega⟩
    exact ref_is_at k (by omega) _ _ _ _ _ _ _ _ _ _ mk (h (k + 1) (by omega)).2
end Go.Proofs.YtbklmlbmbnnjkaaDoor.M
