/- What is added and taken away is as it was, what is turned twice is, both bits and just one are one of both: the Go law answers true. -/
import Derived.Test.YtkmochnefidlmaaDoorMAluTot
import Derived.Test.YtkmochnefidlmaaDoorMAluBackW
namespace Go.Proofs.YtkmochnefidlmaaDoor.Pure
open Go.RowKit Go.Proofs.YtkmochnefidlmaaDoor.P Go.Proofs.YtkmochnefidlmaaDoorW.PrintWords Go.Proofs.YtkmochnefidlmaaDoorW.PrintLast Go.Proofs.YtkmochnefidlmaaDoorW.PrintMore Go.Proofs.YtkmochnefidlmaaDoor.M
set_option linter.unusedVariables false
set_option linter.unusedSimpArgs false

theorem and_or_sum (a b : Nat) : (a &&& b) + (a ||| b) = a + b := by
  induction a using Nat.strongRecOn generalizing b with
  | _ a ih =>
    by_cases h : a = 0
    · subst h; simp
    · have h0 := ih (a / 2) (by omega) (b / 2)
      have h1 := Nat.and_div_two (a := a) (b := b)
      have h2 := Nat.or_div_two (a := a) (b := b)
      have h3 := Nat.and_mod_two_eq_one (a := a) (b := b)
      have h4 := Nat.or_mod_two_eq_one (a := a) (b := b)
      rw [← h1, ← h2] at h0
      omega
theorem and_xor_sum (a b : Nat) : (a &&& b) + (a ^^^ b) = (a ||| b) := by
  induction a using Nat.strongRecOn generalizing b with
  | _ a ih =>
    by_cases h : a = 0
    · subst h; simp
    · have h0 := ih (a / 2) (by omega) (b / 2)
      have h1 := Nat.and_div_two (a := a) (b := b)
      have h2 := Nat.or_div_two (a := a) (b := b)
      have h3 := Nat.and_mod_two_eq_one (a := a) (b := b)
      have h4 := Nat.or_mod_two_eq_one (a := a) (b := b)
      have h5 := Nat.xor_div_two (a := a) (b := b)
      have h6 := Nat.xor_mod_two_eq_one (a := a) (b := b)
      rw [← h1, ← h2, ← h5] at h0
      omega
theorem back_shift (a b c : Int) (hb : 0 ≤ b ∧ b ≤ 2) (hc : 0 ≤ c ∧ c ≤ 63) : ∃ r, 0 ≤ r ∧ r < 18446744073709551616 ∧ ∀ k, 1 ≤ k → flag_Shift.f k a b c = some (r, 0) := by
  have h1 : ∃ r, 0 ≤ r ∧ r < 18446744073709551616 ∧ flag_Shift.f 1 a b c = some (r, 0) := by
    have hw : 0 ≤ wrap64 (64 - c) := by unfold wrap64; omega
    unfold flag_Shift.f
    rw [if_neg (by omega)]
    simp only [flag_Shift.j0, show ¬ (c ≥ 64) by omega, decide_false, Bool.false_eq_true, if_false, hw, hc.1, if_true]
    by_cases b0 : b = 0
    · rw [if_pos b0]
      exact ⟨_, shl_nn _ _, by unfold shl; exact u64_nx _, rfl⟩
    · rw [if_neg b0, if_neg (by omega)]
      by_cases b1 : b = 1
      · rw [if_pos b1]
        exact ⟨_, or_nn _ _, by unfold Go.bits; exact u64_nx _, rfl⟩
      · rw [if_neg b1, if_pos (by omega)]
        exact ⟨_, u64_nn _, u64_nx _, rfl⟩
  obtain ⟨r, h0, hx, h⟩ := h1
  exact ⟨r, h0, hx, fun k hk => at_rounds (g := fun k => flag_Shift.f k a b c) (flag_Shift.mono _ _ _) hk h⟩
theorem back_ok : ∀ o : Fin 7, ∀ s : Fin 3, ∀ a : Fin 64, ∀ mk : Bool, aluB ((12 + o.val : Nat) : Int) 0 0 0 0 0 0 (s.val : Int) (a.val : Int) 0 mk = if o.val = 2 ∨ o.val = 3 then aluB ((12 + o.val : Nat) : Int) 0 0 0 0 0 0 (s.val : Int) (a.val : Int) 0 mk else true := by decide +kernel
theorem back_is (o : Nat) (ho : o = 12 ∨ o = 13 ∨ o = 16 ∨ o = 17 ∨ o = 18) (s a : Int) (hs : 0 ≤ s ∧ s ≤ 2) (ha : 0 ≤ a ∧ a ≤ 63) (k : Nat) (hk : 310 ≤ k) : alu_Is.f k (o : Int) 0 0 0 0 0 0 s a 0 = some true := by
  obtain ⟨mk, h⟩ := alu_is_at (o : Int) 0 0 0 0 0 0 s a 0 (by omega) (by omega)
  rw [h k _ hk]
  obtain ⟨s, rfl⟩ := Int.eq_ofNat_of_zero_le hs.1
  obtain ⟨a, rfl⟩ := Int.eq_ofNat_of_zero_le ha.1
  have h2 := back_ok ⟨o - 12, by omega⟩ ⟨s, by omega⟩ ⟨a, by omega⟩ mk
  simp only at h2
  rw [if_neg (by omega), show 12 + (o - 12) = o by omega] at h2
  rw [h2]
theorem back_v (o : Nat) (ho : o = 12 ∨ o = 13 ∨ o = 16 ∨ o = 17 ∨ o = 18) (s a x0 x1 x2 x3 r : Int) (hr : ∀ k, 1 ≤ k → flag_Shift.f k x2 s a = some (r, 0)) (k : Nat) (f0 f1 f2 f3 : Bool) (hk : 1 ≤ k) : alu_worker_v.f k (o : Int) 0 0 0 0 0 0 s a 0 x0 x1 x2 x3 f0 f1 f2 f3 = some r := by
  have hs : ((shapeN (o : Int) : Nat) : Int) = 4 ∨ ((shapeN (o : Int) : Nat) : Int) = 5 := by
    rcases ho with rfl | rfl | rfl | rfl | rfl <;> decide +kernel
  unfold alu_worker_v.f
  rw [shape_at, Option.bind_some, if_neg (by omega), if_neg (by omega), hr k hk, Option.bind_some]
theorem back_do (o : Nat) (ho : o = 12 ∨ o = 13 ∨ o = 16 ∨ o = 17 ∨ o = 18) (s a x1 x2 v : Int) (hs : 0 ≤ s ∧ s ≤ 2) (ha : 0 ≤ a ∧ a ≤ 63) (k : Nat) (hk : 310 ≤ k)
    (hw : alu_work.f k (o : Int) 0 0 0 0 0 0 s a 0 0 x1 x2 0 false false false false = some (v, false, false, false, false)) : cleatlaw06_do.f k (o : Int) 0 0 0 0 0 0 s a 0 0 x1 x2 0 = some v := by
  unfold cleatlaw06_do.f alu_Do.f
  rw [back_is o ho s a hs ha k hk, Option.bind_some, if_pos rfl, hw, Option.bind_some, Option.bind_some, if_pos rfl]
theorem AluBack_walk (a0 a1 a2 a3 : Int) (W : World) (w0 : (Lit.int .u64 a0).wf = true) (w1 : (Lit.int .u64 a1).wf = true) (w2 : (Lit.int .i64 a2).wf = true) (w3 : (Lit.int .i64 a3).wf = true) (hTab : TabW W) :
    Calls Tryd.prog 3 #[.int .u64 a0, .int .u64 a1, .int .i64 a2, .int .i64 a3] W fun e W' => e = .returned (.bool true) ∧ Below W.heap.size W W' := by
  by_cases h : a2 < 0 ∨ a2 > 2 ∨ a3 < 0 ∨ a3 > 63
  · exact back_out 400 a0 a1 a2 a3 W h (done_at 400 (by omega)) hTab
  have hs : 0 ≤ a2 ∧ a2 ≤ 2 := by omega
  have ha : 0 ≤ a3 ∧ a3 ≤ 63 := by omega
  have b0 : 0 ≤ a0 ∧ a0 < 18446744073709551616 := by simp [Lit.wf, IntKind.min, IntKind.max, IntKind.bits, IntKind.signed] at w0; omega
  have b1 : 0 ≤ a1 ∧ a1 < 18446744073709551616 := by simp [Lit.wf, IntKind.min, IntKind.max, IntKind.bits, IntKind.signed] at w1; omega
  obtain ⟨r, r0, r1, hr⟩ := back_shift a1 a2 a3 hs ha
  have wv := fun o ho x => back_v o ho a2 a3 0 x a1 0 r hr
  obtain ⟨a, rfl⟩ := Int.eq_ofNat_of_zero_le b0.1
  obtain ⟨c, rfl⟩ := Int.eq_ofNat_of_zero_le r0
  have e64 : (2 : Nat) ^ 64 = 18446744073709551616 := by decide
  have hx := Nat.xor_lt_two_pow (n := 64) (show a < 2 ^ 64 by omega) (show c < 2 ^ 64 by omega)
  have hor := Nat.or_lt_two_pow (n := 64) (show a < 2 ^ 64 by omega) (show c < 2 ^ 64 by omega)
  rw [e64] at hx hor
  have ao := and_or_sum a c
  have ax := and_xor_sum a c
  refine back_in 400 a a1 a2 a3 W (((a : Int) + c) % 18446744073709551616) ((a ^^^ c : Nat) : Int) ((a &&& c : Nat) : Int) ((a ||| c : Nat) : Int) c h (done_at 400 (by omega)) ?_ ?_ ?_ ?_ (hr 400 (by omega)) ?_ ?_ ?_ ?_ hTab
  · refine back_do 12 (by omega) a2 a3 _ _ _ hs ha 400 (by omega) ?_
    show alu_work.f 400 12 0 0 0 0 0 0 a2 a3 0 0 _ _ 0 false false false false = _
    rw [at_12, w_add 400 12 0 0 0 0 0 0 a2 a3 0 0 a a1 0 c false false false false (by omega) (wv 12 (by omega) a) (by omega) (by omega)]
    simp [flag_sum]
  · refine back_do 18 (by omega) a2 a3 _ _ _ hs ha 400 (by omega) ?_
    show alu_work.f 400 18 0 0 0 0 0 0 a2 a3 0 0 _ _ 0 false false false false = _
    rw [at_18, w_eor 400 18 0 0 0 0 0 0 a2 a3 0 0 a a1 0 c false false false false (by omega) (wv 18 (by omega) a), u64_xor_nat _ _ (by omega) (by omega)]
  · refine back_do 16 (by omega) a2 a3 _ _ _ hs ha 400 (by omega) ?_
    show alu_work.f 400 16 0 0 0 0 0 0 a2 a3 0 0 _ _ 0 false false false false = _
    rw [at_16, w_and 400 16 0 0 0 0 0 0 a2 a3 0 0 a a1 0 c false false false false (by omega) (wv 16 (by omega) a), u64_and_nat _ _ (by omega) (by omega)]
  · refine back_do 17 (by omega) a2 a3 _ _ _ hs ha 400 (by omega) ?_
    show alu_work.f 400 17 0 0 0 0 0 0 a2 a3 0 0 _ _ 0 false false false false = _
    rw [at_17, w_orr 400 17 0 0 0 0 0 0 a2 a3 0 0 a a1 0 c false false false false (by omega) (wv 17 (by omega) a), u64_or_nat _ _ (by omega) (by omega)]
  · refine back_do 13 (by omega) a2 a3 _ _ _ hs ha 400 (by omega) ?_
    show alu_work.f 400 13 0 0 0 0 0 0 a2 a3 0 0 _ _ 0 false false false false = _
    rw [at_13, w_sub 400 13 0 0 0 0 0 0 a2 a3 0 0 _ a1 0 c false false false false (by omega) (wv 13 (by omega) _) (by omega), xor_ones_u64 _ (by omega) (by omega)]
    congr 2
    simp only [flag_sum, if_true]
    omega
  · refine back_do 18 (by omega) a2 a3 _ _ _ hs ha 400 (by omega) ?_
    show alu_work.f 400 18 0 0 0 0 0 0 a2 a3 0 0 _ _ 0 false false false false = _
    rw [at_18, w_eor 400 18 0 0 0 0 0 0 a2 a3 0 0 _ a1 0 c false false false false (by omega) (wv 18 (by omega) _), u64_xor_nat _ _ (by omega) (by omega), Nat.xor_assoc, Nat.xor_self, Nat.xor_zero]
  · rw [IntKind.wrap_u64]
    omega
  · rw [IntKind.wrap_u64, IntKind.wrap_u64]
    omega
end Go.Proofs.YtkmochnefidlmaaDoor.Pure
