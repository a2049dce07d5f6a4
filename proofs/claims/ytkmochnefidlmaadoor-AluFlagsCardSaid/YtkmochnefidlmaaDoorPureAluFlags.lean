/- No flag turns without an operation of flags; such an operation makes the number that its sister makes: the Go law answers true. -/
import Derived.Test.YtkmochnefidlmaaDoorPx13
import Derived.Test.YtkmochnefidlmaaDoorMAluTot
namespace Go.Proofs.YtkmochnefidlmaaDoor.Pure
open Go.RowKit Go.Proofs.YtkmochnefidlmaaDoor.P Go.Proofs.YtkmochnefidlmaaDoorW.PrintWords Go.Proofs.YtkmochnefidlmaaDoorW.PrintLast Go.Proofs.YtkmochnefidlmaaDoorW.PrintMore Go.Proofs.YtkmochnefidlmaaDoor.M
set_option linter.unusedVariables false
set_option linter.unusedSimpArgs false

theorem do_no (k : Nat) (a0_0 a0_1 a0_2 a0_3 a0_4 a0_5 a0_6 a0_7 a0_8 a0_9 a1_0 a1_1 a1_2 a1_3 : Int) (a2_0 a2_1 a2_2 a2_3 : Bool) (h : alu_Is.f k a0_0 a0_1 a0_2 a0_3 a0_4 a0_5 a0_6 a0_7 a0_8 a0_9 = some false) : alu_Do.f k a0_0 a0_1 a0_2 a0_3 a0_4 a0_5 a0_6 a0_7 a0_8 a0_9 a1_0 a1_1 a1_2 a1_3 a2_0 a2_1 a2_2 a2_3 = some (0, false, false, false, false, 1) := by
  unfold alu_Do.f; rw [h, Option.bind_some, if_neg (by decide)]
theorem do_yes (k : Nat) (a0_0 a0_1 a0_2 a0_3 a0_4 a0_5 a0_6 a0_7 a0_8 a0_9 a1_0 a1_1 a1_2 a1_3 : Int) (a2_0 a2_1 a2_2 a2_3 : Bool) (p : Int × Bool × Bool × Bool × Bool) (h : alu_Is.f k a0_0 a0_1 a0_2 a0_3 a0_4 a0_5 a0_6 a0_7 a0_8 a0_9 = some true) (hw : alu_work.f k a0_0 a0_1 a0_2 a0_3 a0_4 a0_5 a0_6 a0_7 a0_8 a0_9 a1_0 a1_1 a1_2 a1_3 a2_0 a2_1 a2_2 a2_3 = some p) : alu_Do.f k a0_0 a0_1 a0_2 a0_3 a0_4 a0_5 a0_6 a0_7 a0_8 a0_9 a1_0 a1_1 a1_2 a1_3 a2_0 a2_1 a2_2 a2_3 = some (p.1, p.2.1, p.2.2.1, p.2.2.2.1, p.2.2.2.2, 0) := by
  unfold alu_Do.f; rw [h, Option.bind_some, if_pos rfl, hw, Option.bind_some]
theorem flags_at (a0_0 a0_1 a0_2 a0_3 a0_4 a0_5 a0_6 a0_7 a0_8 a0_9 a1_0 a1_1 a1_2 a1_3 : Int) (a2_0 a2_1 a2_2 a2_3 : Bool) (m0 : 0 ≤ a0_6) (m1 : a0_6 < 18446744073709551616) (n0 : 0 ≤ a1_1) : cleatlaw06_AluFlags.f 400 a0_0 a0_1 a0_2 a0_3 a0_4 a0_5 a0_6 a0_7 a0_8 a0_9 a1_0 a1_1 a1_2 a1_3 a2_0 a2_1 a2_2 a2_3 = some true := by
  obtain ⟨mk, hi⟩ := alu_is_at a0_0 a0_1 a0_2 a0_3 a0_4 a0_5 a0_6 a0_7 a0_8 a0_9 m0 m1
  obtain ⟨v, v0, hv⟩ := v_some (shapeN a0_0) a0_1 a0_2 a0_3 a0_4 a0_5 a0_6 a0_7 a0_8 a0_9 a1_0 a1_1 a1_2 a1_3 m0
  by_cases hb : aluB a0_0 a0_1 a0_2 a0_3 a0_4 a0_5 a0_6 a0_7 a0_8 a0_9 mk = false
  · have h1 := hi 400 a0_0 (by omega)
    rw [hb] at h1
    unfold cleatlaw06_AluFlags.f
    rw [do_no 400 _ _ _ _ _ _ _ _ _ _ _ _ _ _ _ _ _ _ h1, Option.bind_some]
    rw [if_neg (by decide), done_at 400 (by omega), Option.bind_some, if_pos rfl, h1, Option.bind_some, if_neg (by decide), if_pos rfl]
    rfl
  rw [Bool.not_eq_false] at hb
  obtain ⟨hop, h8⟩ := aluB_op hb
  have hyes : ∀ op' k, shapeN op' = shapeN a0_0 → 310 ≤ k → alu_Is.f k op' a0_1 a0_2 a0_3 a0_4 a0_5 a0_6 a0_7 a0_8 a0_9 = some true := fun op' k h hk => by rw [hi k op' hk, aluB_sister h, hb]
  by_cases hn : a0_0 ≠ 6 ∧ a0_0 ≠ 7 ∧ a0_0 ≠ 11 ∧ a0_0 ≠ 14 ∧ a0_0 ≠ 15 ∧ a0_0 ≠ 19
  · obtain ⟨r, hr⟩ := work_plain 400 a0_0 a0_1 a0_2 a0_3 a0_4 a0_5 a0_6 a0_7 a0_8 a0_9 a1_0 a1_1 a1_2 a1_3 v a2_0 a2_1 a2_2 a2_3 (by omega) (hv a0_0 rfl) n0 v0 h8 hop hn
    have hd := do_yes 400 _ _ _ _ _ _ _ _ _ _ _ _ _ _ _ _ _ _ _ (hyes a0_0 400 rfl (by omega)) hr
    obtain ⟨c6, c7, c11, c14, c15, c19⟩ := hn
    unfold cleatlaw06_AluFlags.f
    rw [hd, Option.bind_some, if_pos rfl, if_neg c6, cleatlaw06_AluFlags.j0, if_neg (by simpa using c7), if_neg c11, if_neg c14, cleatlaw06_AluFlags.j1, if_neg (by simpa using c15), if_neg c19, done_at _ (by omega), Option.bind_some, if_pos rfl]
    simp
  have hc : a0_0 = 6 ∨ a0_0 = 7 ∨ a0_0 = 11 ∨ a0_0 = 14 ∨ a0_0 = 15 ∨ a0_0 = 19 := by omega
  clear hn hop hi
  rcases hc with rfl | rfl | rfl | rfl | rfl | rfl
  · have hs : shapeN 4 = shapeN 6 := by decide +kernel
    obtain ⟨c, w, w1⟩ := w_adds 400 6 a0_1 a0_2 a0_3 a0_4 a0_5 a0_6 a0_7 a0_8 a0_9 a1_0 a1_1 a1_2 a1_3 v a2_0 a2_1 a2_2 a2_3 (by omega) (hv 6 rfl) n0 v0
    have w2 := fun k (hk : 1 ≤ k) => w_add k 4 a0_1 a0_2 a0_3 a0_4 a0_5 a0_6 a0_7 a0_8 a0_9 a1_0 a1_1 a1_2 a1_3 v a2_0 a2_1 a2_2 a2_3 hk (hv 4 hs) n0 v0
    rw [← at_6] at w1
    simp only [← at_4] at w2
    have hd := do_yes 400 _ _ _ _ _ _ _ _ _ _ _ _ _ _ _ _ _ _ _ (hyes 6 400 rfl (by omega)) w1
    have hd2 := fun k (hk : 310 ≤ k) => do_yes k _ _ _ _ _ _ _ _ _ _ _ _ _ _ _ _ _ _ _ (hyes 4 k hs hk) (w2 k (by omega))
    unfold cleatlaw06_AluFlags.f
    rw [hd, Option.bind_some]
    clear hd w1
    dsimp only
    rw [if_pos rfl, if_pos rfl, cleatlaw06_AluFlags.j0, if_pos (show ((6 : Int) == 6) = true by decide), cleatlaw06_AluFlags.j2, show wrap64 ((6 : Int) - 2) = 4 by decide +kernel, hd2 398 (by omega), Option.bind_some, if_neg (show ¬ ((6 : Int) = 11) by decide), cleatlaw06_AluFlags.j3, done_at _ (by omega), Option.bind_some, if_pos rfl, if_pos rfl, if_pos rfl, if_pos (by simp)]
    unfold flag_Of.f
    rw [Option.bind_some, if_pos (by simp), Option.bind_some, if_pos (by simp)]
    exact if_neg (by decide)
  · have hs : shapeN 5 = shapeN 7 := by decide +kernel
    obtain ⟨c, w, w1⟩ := w_subs 400 7 a0_1 a0_2 a0_3 a0_4 a0_5 a0_6 a0_7 a0_8 a0_9 a1_0 a1_1 a1_2 a1_3 v a2_0 a2_1 a2_2 a2_3 (by omega) (hv 7 rfl) n0
    have w2 := fun k (hk : 1 ≤ k) => w_sub k 5 a0_1 a0_2 a0_3 a0_4 a0_5 a0_6 a0_7 a0_8 a0_9 a1_0 a1_1 a1_2 a1_3 v a2_0 a2_1 a2_2 a2_3 hk (hv 5 hs) n0
    rw [← at_7] at w1
    simp only [← at_5] at w2
    have hd := do_yes 400 _ _ _ _ _ _ _ _ _ _ _ _ _ _ _ _ _ _ _ (hyes 7 400 rfl (by omega)) w1
    have hd2 := fun k (hk : 310 ≤ k) => do_yes k _ _ _ _ _ _ _ _ _ _ _ _ _ _ _ _ _ _ _ (hyes 5 k hs hk) (w2 k (by omega))
    unfold cleatlaw06_AluFlags.f
    rw [hd, Option.bind_some]
    clear hd w1
    dsimp only
    rw [if_pos rfl, if_neg (show ¬ ((7 : Int) = 6) by decide), cleatlaw06_AluFlags.j0, if_pos (show ((7 : Int) == 7) = true by decide), cleatlaw06_AluFlags.j2, show wrap64 ((7 : Int) - 2) = 5 by decide +kernel, hd2 398 (by omega), Option.bind_some, if_neg (show ¬ ((7 : Int) = 11) by decide), cleatlaw06_AluFlags.j3, done_at _ (by omega), Option.bind_some, if_pos rfl, if_pos rfl, if_pos rfl, if_pos (by simp)]
    unfold flag_Of.f
    rw [Option.bind_some, if_pos (by simp), Option.bind_some, if_pos (by simp)]
    exact if_neg (by decide)
  · have hs : shapeN 8 = shapeN 11 := by decide +kernel
    have w1 := fun k (hk : 1 ≤ k) => w_ands k 11 a0_1 a0_2 a0_3 a0_4 a0_5 a0_6 a0_7 a0_8 a0_9 a1_0 a1_1 a1_2 a1_3 v a2_0 a2_1 a2_2 a2_3 hk (hv 11 rfl)
    have w1 := w1 400 (by omega)
    have w2 := fun k (hk : 1 ≤ k) => w_and k 8 a0_1 a0_2 a0_3 a0_4 a0_5 a0_6 a0_7 a0_8 a0_9 a1_0 a1_1 a1_2 a1_3 v a2_0 a2_1 a2_2 a2_3 hk (hv 8 hs) 
    rw [← at_11] at w1
    simp only [← at_8] at w2
    have hd := do_yes 400 _ _ _ _ _ _ _ _ _ _ _ _ _ _ _ _ _ _ _ (hyes 11 400 rfl (by omega)) w1
    have hd2 := fun k (hk : 310 ≤ k) => do_yes k _ _ _ _ _ _ _ _ _ _ _ _ _ _ _ _ _ _ _ (hyes 8 k hs hk) (w2 k (by omega))
    unfold cleatlaw06_AluFlags.f
    rw [hd, Option.bind_some]
    clear hd w1
    dsimp only
    rw [if_pos rfl, if_neg (show ¬ ((11 : Int) = 6) by decide), cleatlaw06_AluFlags.j0, if_neg (show ¬ (((11 : Int) == 7) = true) by decide), if_pos rfl, cleatlaw06_AluFlags.j2, hd2 398 (by omega), Option.bind_some, if_pos rfl, cleatlaw06_AluFlags.j3, done_at _ (by omega), Option.bind_some, if_pos rfl, if_pos rfl, if_pos rfl, if_pos (by simp)]
    unfold flag_Of.f
    rw [Option.bind_some, if_pos (by simp), Option.bind_some, if_pos (by simp)]
    first | (rw [if_pos rfl, Option.bind_some]; simp) | (rw [if_pos (by decide), Option.bind_some]; simp)
  · have hs : shapeN 12 = shapeN 14 := by decide +kernel
    obtain ⟨c, w, w1⟩ := w_adds 400 14 a0_1 a0_2 a0_3 a0_4 a0_5 a0_6 a0_7 a0_8 a0_9 a1_0 a1_1 a1_2 a1_3 v a2_0 a2_1 a2_2 a2_3 (by omega) (hv 14 rfl) n0 v0
    have w2 := fun k (hk : 1 ≤ k) => w_add k 12 a0_1 a0_2 a0_3 a0_4 a0_5 a0_6 a0_7 a0_8 a0_9 a1_0 a1_1 a1_2 a1_3 v a2_0 a2_1 a2_2 a2_3 hk (hv 12 hs) n0 v0
    rw [← at_14] at w1
    simp only [← at_12] at w2
    have hd := do_yes 400 _ _ _ _ _ _ _ _ _ _ _ _ _ _ _ _ _ _ _ (hyes 14 400 rfl (by omega)) w1
    have hd2 := fun k (hk : 310 ≤ k) => do_yes k _ _ _ _ _ _ _ _ _ _ _ _ _ _ _ _ _ _ _ (hyes 12 k hs hk) (w2 k (by omega))
    unfold cleatlaw06_AluFlags.f
    rw [hd, Option.bind_some]
    clear hd w1
    dsimp only
    rw [if_pos rfl, if_neg (show ¬ ((14 : Int) = 6) by decide), cleatlaw06_AluFlags.j0, if_neg (show ¬ (((14 : Int) == 7) = true) by decide), if_neg (show ¬ ((14 : Int) = 11) by decide), if_pos rfl, cleatlaw06_AluFlags.j1, if_pos (show ((14 : Int) == 14) = true by decide), cleatlaw06_AluFlags.j2, show wrap64 ((14 : Int) - 2) = 12 by decide +kernel, hd2 397 (by omega), Option.bind_some, if_neg (show ¬ ((14 : Int) = 11) by decide), cleatlaw06_AluFlags.j3, done_at _ (by omega), Option.bind_some, if_pos rfl, if_pos rfl, if_pos rfl, if_pos (by simp)]
    unfold flag_Of.f
    rw [Option.bind_some, if_pos (by simp), Option.bind_some, if_pos (by simp)]
    exact if_neg (by decide)
  · have hs : shapeN 13 = shapeN 15 := by decide +kernel
    obtain ⟨c, w, w1⟩ := w_subs 400 15 a0_1 a0_2 a0_3 a0_4 a0_5 a0_6 a0_7 a0_8 a0_9 a1_0 a1_1 a1_2 a1_3 v a2_0 a2_1 a2_2 a2_3 (by omega) (hv 15 rfl) n0
    have w2 := fun k (hk : 1 ≤ k) => w_sub k 13 a0_1 a0_2 a0_3 a0_4 a0_5 a0_6 a0_7 a0_8 a0_9 a1_0 a1_1 a1_2 a1_3 v a2_0 a2_1 a2_2 a2_3 hk (hv 13 hs) n0
    rw [← at_15] at w1
    simp only [← at_13] at w2
    have hd := do_yes 400 _ _ _ _ _ _ _ _ _ _ _ _ _ _ _ _ _ _ _ (hyes 15 400 rfl (by omega)) w1
    have hd2 := fun k (hk : 310 ≤ k) => do_yes k _ _ _ _ _ _ _ _ _ _ _ _ _ _ _ _ _ _ _ (hyes 13 k hs hk) (w2 k (by omega))
    unfold cleatlaw06_AluFlags.f
    rw [hd, Option.bind_some]
    clear hd w1
    dsimp only
    rw [if_pos rfl, if_neg (show ¬ ((15 : Int) = 6) by decide), cleatlaw06_AluFlags.j0, if_neg (show ¬ (((15 : Int) == 7) = true) by decide), if_neg (show ¬ ((15 : Int) = 11) by decide), if_neg (show ¬ ((15 : Int) = 14) by decide), cleatlaw06_AluFlags.j1, if_pos (show ((15 : Int) == 15) = true by decide), cleatlaw06_AluFlags.j2, show wrap64 ((15 : Int) - 2) = 13 by decide +kernel, hd2 397 (by omega), Option.bind_some, if_neg (show ¬ ((15 : Int) = 11) by decide), cleatlaw06_AluFlags.j3, done_at _ (by omega), Option.bind_some, if_pos rfl, if_pos rfl, if_pos rfl, if_pos (by simp)]
    unfold flag_Of.f
    rw [Option.bind_some, if_pos (by simp), Option.bind_some, if_pos (by simp)]
    exact if_neg (by decide)
  · have hs : shapeN 16 = shapeN 19 := by decide +kernel
    have w1 := fun k (hk : 1 ≤ k) => w_ands k 19 a0_1 a0_2 a0_3 a0_4 a0_5 a0_6 a0_7 a0_8 a0_9 a1_0 a1_1 a1_2 a1_3 v a2_0 a2_1 a2_2 a2_3 hk (hv 19 rfl)
    have w1 := w1 400 (by omega)
    have w2 := fun k (hk : 1 ≤ k) => w_and k 16 a0_1 a0_2 a0_3 a0_4 a0_5 a0_6 a0_7 a0_8 a0_9 a1_0 a1_1 a1_2 a1_3 v a2_0 a2_1 a2_2 a2_3 hk (hv 16 hs) 
    rw [← at_19] at w1
    simp only [← at_16] at w2
    have hd := do_yes 400 _ _ _ _ _ _ _ _ _ _ _ _ _ _ _ _ _ _ _ (hyes 19 400 rfl (by omega)) w1
    have hd2 := fun k (hk : 310 ≤ k) => do_yes k _ _ _ _ _ _ _ _ _ _ _ _ _ _ _ _ _ _ _ (hyes 16 k hs hk) (w2 k (by omega))
    unfold cleatlaw06_AluFlags.f
    rw [hd, Option.bind_some]
    clear hd w1
    dsimp only
    rw [if_pos rfl, if_neg (show ¬ ((19 : Int) = 6) by decide), cleatlaw06_AluFlags.j0, if_neg (show ¬ (((19 : Int) == 7) = true) by decide), if_neg (show ¬ ((19 : Int) = 11) by decide), if_neg (show ¬ ((19 : Int) = 14) by decide), cleatlaw06_AluFlags.j1, if_neg (show ¬ (((19 : Int) == 15) = true) by decide), if_pos rfl, cleatlaw06_AluFlags.j2, hd2 397 (by omega), Option.bind_some, if_neg (show ¬ ((19 : Int) = 11) by decide), cleatlaw06_AluFlags.j3, done_at _ (by omega), Option.bind_some, if_pos rfl, if_pos rfl, if_pos rfl, if_pos (by simp)]
    unfold flag_Of.f
    rw [Option.bind_some, if_pos (by simp), Option.bind_some, if_pos (by simp)]
    first | (rw [if_pos rfl, Option.bind_some]; simp) | (rw [if_pos (by decide), Option.bind_some]; simp)
theorem bounds64 {a : Int} (h : (Lit.int .u64 a).wf = true) : 0 ≤ a ∧ a < 18446744073709551616 := by
  simp [Lit.wf, IntKind.min, IntKind.max, IntKind.bits, IntKind.signed] at h; omega
theorem AluFlags_walk (a0_0 a0_1 a0_2 a0_3 a0_4 a0_5 a0_6 a0_7 a0_8 a0_9 a1_0 a1_1 a1_2 a1_3 : Int) (a2_0 a2_1 a2_2 a2_3 : Bool) (W : World) (w0_0 : (Lit.int .i64 a0_0).wf = true) (w0_1 : (Lit.int .i64 a0_1).wf = true) (w0_2 : (Lit.int .i64 a0_2).wf = true) (w0_3 : (Lit.int .i64 a0_3).wf = true) (w0_4 : (Lit.int .i64 a0_4).wf = true) (w0_5 : (Lit.int .i64 a0_5).wf = true) (w0_6 : (Lit.int .u64 a0_6).wf = true) (w0_7 : (Lit.int .i64 a0_7).wf = true) (w0_8 : (Lit.int .i64 a0_8).wf = true) (w0_9 : (Lit.int .i64 a0_9).wf = true) (w1_0 : (Lit.int .u64 a1_0).wf = true) (w1_1 : (Lit.int .u64 a1_1).wf = true) (w1_2 : (Lit.int .u64 a1_2).wf = true) (w1_3 : (Lit.int .u64 a1_3).wf = true) (hTab : TabW W) :
    Calls Tryd.prog 4 #[.agg #[.int .i64 a0_0, .int .i64 a0_1, .int .i64 a0_2, .int .i64 a0_3, .int .i64 a0_4, .int .i64 a0_5, .int .u64 a0_6, .int .i64 a0_7, .int .i64 a0_8, .int .i64 a0_9], .agg #[.int .u64 a1_0, .int .u64 a1_1, .int .u64 a1_2, .int .u64 a1_3], .agg #[.bool a2_0, .bool a2_1, .bool a2_2, .bool a2_3]] W fun e W' => e = .returned (.bool true) ∧ Below W.heap.size W W' := by
  have m6 := bounds64 w0_6
  have m1 := bounds64 w1_1
  exact cleatlaw06_AluFlags.calls 400 a0_0 a0_1 a0_2 a0_3 a0_4 a0_5 a0_6 a0_7 a0_8 a0_9 a1_0 a1_1 a1_2 a1_3 a2_0 a2_1 a2_2 a2_3 true W (flags_at _ _ _ _ _ _ _ _ _ _ _ _ _ _ _ _ _ _ m6.1 m6.2 m1.1) hTab
end Go.Proofs.YtkmochnefidlmaaDoor.Pure
