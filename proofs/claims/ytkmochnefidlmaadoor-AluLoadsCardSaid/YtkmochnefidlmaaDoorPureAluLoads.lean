/- Load makes its number, from whatever was there, by four at most, all of them right: the Go law answers true. -/
import Derived.Test.YtkmochnefidlmaaDoorPx15
import Derived.Test.YtkmochnefidlmaaDoorMAluLoad
namespace Go.Proofs.YtkmochnefidlmaaDoor.Pure
open Go.RowKit Go.Proofs.YtkmochnefidlmaaDoor.P Go.Proofs.YtkmochnefidlmaaDoorW.PrintWords Go.Proofs.YtkmochnefidlmaaDoorW.PrintLast Go.Proofs.YtkmochnefidlmaaDoorW.PrintMore Go.Proofs.YtkmochnefidlmaaDoor.M
set_option linter.unusedVariables false
set_option linter.unusedSimpArgs false

theorem shape13 {op : Int} (hop : op = 1 ∨ op = 3) : inst_Shape.f op = some 1 := by rcases hop with rfl | rfl <;> rfl
theorem isM (k : Nat) (hk : 2 ≤ k) (op : Int) (n j : Nat) (hop : op = 1 ∨ op = 3) (hn : n < 65536) (hj : j < 4) : inst_Is.f k op 0 0 0 0 (n : Int) 0 0 ((16 * j : Nat) : Int) 0 = some true := by
  obtain ⟨k, rfl⟩ : ∃ q, k = q + 2 := ⟨k - 2, by omega⟩
  have e2 : inst_shapeOf.f 1 = some (true, false, false, false, 0, 65535, 1, 48, 16, 0, 0, false) := rfl
  have r1 : inst_register.f true 0 = some true := rfl
  have r2 : inst_register.f false 0 = some true := rfl
  have s1 : inst_step.f (n : Int) 0 65535 1 = some true := by
    unfold inst_step.f
    rw [if_neg (by decide), if_pos (by omega), if_pos (by omega)]
    simp
  have s2 : inst_step.f ((16 * j : Nat) : Int) 0 48 16 = some true := by
    rcases (by omega : j = 0 ∨ j = 1 ∨ j = 2 ∨ j = 3) with rfl | rfl | rfl | rfl <;> rfl
  unfold inst_Is.f
  rw [shape13 hop, Option.bind_some, if_neg (by decide), e2, Option.bind_some]
  simp only [r1, r2, Option.bind_some, if_true, inst_Is.j0, inst_Is.j1, s1, s2]
  rw [if_pos (by decide), if_pos (by decide), if_pos (by decide), if_neg (by decide)]
  rfl
theorem aluM (k : Nat) (hk : 2 ≤ k) (op : Int) (n j : Nat) (hop : op = 1 ∨ op = 3) (hn : n < 65536) (hj : j < 4) : alu_Is.f k op 0 0 0 0 (n : Int) 0 0 ((16 * j : Nat) : Int) 0 = some true := by
  unfold alu_Is.f
  rw [shape13 hop, Option.bind_some, isM k hk op n j hop hn hj, Option.bind_some, if_pos rfl, if_pos (by decide)]
theorem pow16 (j : Nat) (hj : j < 4) : (2 : Nat) ^ (16 * j) ≤ 281474976710656 := by
  rcases (by omega : j = 0 ∨ j = 1 ∨ j = 2 ∨ j = 3) with rfl | rfl | rfl | rfl <;> decide
theorem shl16 (n j : Nat) (hn : n < 65536) (hj : j < 4) : shl .u64 (n : Int) ((16 * j : Nat) : Int) = ((n * 2 ^ (16 * j) : Nat) : Int) := by
  have h := pow16 j hj
  have h2 : n * 2 ^ (16 * j) ≤ 65535 * 281474976710656 := Nat.mul_le_mul (by omega) h
  unfold shl
  rw [Nat.min_eq_left (by show ((16 * j : Nat) : Int).toNat ≤ 64; omega), Int.toNat_natCast, u64_mod]
  have e : (n : Int) * 2 ^ (16 * j) = ((n * 2 ^ (16 * j) : Nat) : Int) := by push_cast; rfl
  rw [e]
  omega
theorem vM (k : Nat) (hk : 1 ≤ k) (op : Int) (n j : Nat) (hop : op = 1 ∨ op = 3) (hn : n < 65536) (hj : j < 4) (x0 x1 x2 x3 : Int) (f0 f1 f2 f3 : Bool) : alu_worker_v.f k op 0 0 0 0 (n : Int) 0 0 ((16 * j : Nat) : Int) 0 x0 x1 x2 x3 f0 f1 f2 f3 = some ((n * 2 ^ (16 * j) : Nat) : Int) := by
  obtain ⟨k, rfl⟩ : ∃ q, k = q + 1 := ⟨k - 1, by omega⟩
  have e : IntKind.u64.wrap (n : Int) = (n : Int) := by rw [u64_mod]; omega
  have es : flag_Shift.f (k + 1) (n : Int) 0 ((16 * j : Nat) : Int) = some (((n * 2 ^ (16 * j) : Nat) : Int), 0) := by
    unfold flag_Shift.f
    rw [if_neg (by omega), decide_eq_false (by omega)]
    simp only [flag_Shift.j0]
    rw [if_neg (by decide), if_true, if_pos (by omega), shl16 n j hn hj]
  unfold alu_worker_v.f
  rw [shape13 hop, Option.bind_some, if_pos (.inl rfl), e, es]
  rfl
theorem movz (k : Nat) (hk : 2 ≤ k) (n j : Nat) (hn : n < 65536) (hj : j < 4) (d x1 x2 x3 : Int) : alu_Do.f k 1 0 0 0 0 (n : Int) 0 0 ((16 * j : Nat) : Int) 0 d x1 x2 x3 false false false false = some (((n * 2 ^ (16 * j) : Nat) : Int), false, false, false, false, 0) := by
  unfold alu_Do.f
  rw [aluM k hk 1 n j (.inl rfl) hn hj, Option.bind_some, if_pos rfl]
  unfold alu_work.f
  rw [if_pos rfl]
  unfold alu_worker_put.f
  rw [vM k (by omega) 1 n j (.inl rfl) hn hj]
  rfl
theorem movk (k : Nat) (hk : 2 ≤ k) (n j d : Nat) (hn : n < 65536) (hj : j < 4) (hd : d < 2 ^ (16 * j)) (x1 x2 x3 : Int) : alu_Do.f k 3 0 0 0 0 (n : Int) 0 0 ((16 * j : Nat) : Int) 0 (d : Int) x1 x2 x3 false false false false = some (((d + n * 2 ^ (16 * j) : Nat) : Int), false, false, false, false, 0) := by
  unfold alu_Do.f
  rw [aluM k hk 3 n j (.inr rfl) hn hj, Option.bind_some, if_pos rfl]
  unfold alu_work.f
  rw [if_neg (by decide), if_neg (by decide), if_pos rfl]
  unfold alu_worker_keep.f
  have h65 := shl16 65535 j (by decide) hj
  rw [if_pos (by omega), vM k (by omega) 3 n j (.inr rfl) hn hj, Option.bind_some, show (65535 : Int) = ((65535 : Nat) : Int) from rfl, h65, keep_nat d n (16 * j) (by omega) hd hn]
  rfl
theorem rdS (l xs : List S25) (x : S25) (i : Nat) (h : l.drop i = x :: xs) : rd_T25 l (i : Int) = x ∧ i < l.length ∧ l.drop (i + 1) = xs := by
  have hi : i < l.length := by
    rcases Nat.lt_or_ge i l.length with h1 | h1
    · exact h1
    · rw [List.drop_eq_nil_of_le h1] at h; cases h
  rw [List.drop_eq_getElem_cons hi] at h
  have := List.cons.inj h
  refine ⟨?_, hi, this.2⟩
  show l.getD ((i : Int).toNat) _ = x
  rw [Int.toNat_natCast, List.getD_eq_getElem?_getD, List.getElem?_eq_getElem hi, ← this.1]
  rfl
theorem all_next (l : List S25) (x1 x2 x3 : Int) (hl : l.length ≤ 4) : ∀ (xs : List S25) (m i k d : Nat), l.drop i = xs → okL false m xs → d < 2 ^ (16 * m) → 10 + xs.length ≤ k →
    alu_All.l0 k l (l.length : Int) (i : Int) (d : Int) x1 x2 x3 = some (((d + valL xs : Nat) : Int), 0)
  | [], m, i, k, d, h, _, _, hk => by
    obtain ⟨k, rfl⟩ : ∃ q, k = q + 1 := ⟨k - 1, by omega⟩
    have hi : l.length ≤ i := by
      rcases Nat.lt_or_ge i l.length with h1 | h1
      · rw [List.drop_eq_getElem_cons h1] at h; cases h
      · exact h1
    simp only [alu_All.l0]
    rw [if_neg (by omega)]
    rfl
  | x :: xs, m, i, k, d, h, ⟨n, j, hm, hj, hn, h0, hx, hok⟩, hd, hk => by
    obtain ⟨k, rfl⟩ : ∃ q, k = q + 1 := ⟨k - 1, by omega⟩
    obtain ⟨h1, h2, h3⟩ := rdS l xs x i h
    simp only [List.length_cons] at hk
    have hd2 : d < 2 ^ (16 * j) := Nat.lt_of_lt_of_le hd (Nat.pow_le_pow_right (by decide) (by omega))
    have hd3 : d + n * 2 ^ (16 * j) < 2 ^ (16 * (j + 1)) := by
      rw [show 16 * (j + 1) = 16 * j + 16 by omega, Nat.pow_add]
      have : n * 2 ^ (16 * j) + 2 ^ (16 * j) ≤ 2 ^ (16 * j) * 2 ^ 16 := by
        rw [show n * 2 ^ (16 * j) + 2 ^ (16 * j) = (n + 1) * 2 ^ (16 * j) by rw [Nat.add_mul, Nat.one_mul], Nat.mul_comm]
        exact Nat.mul_le_mul (Nat.le_refl _) (by omega)
      omega
    simp only [alu_All.l0]
    rw [if_pos (by omega), if_pos (by omega), if_pos (by omega), h1, hx]
    simp only [mkI]
    rw [if_neg (show ¬ (false = true) by decide), movk k (by omega) n j d hn hj hd2, Option.bind_some, if_pos rfl, w64s _ (by omega) (by omega), show ((i : Int) + 1) = ((i + 1 : Nat) : Int) by omega]
    have := all_next l x1 x2 x3 hl xs (j + 1) (i + 1) k (d + n * 2 ^ (16 * j)) h3 hok hd3 (by omega)
    rw [this]
    show some (((d + n * 2 ^ (16 * j) + valL xs : Nat) : Int), (0 : Int)) = some (((d + (n * 2 ^ (16 * j) + valL xs) : Nat) : Int), (0 : Int))
    rw [Nat.add_assoc]
theorem all_at (l : List S25) (x0 x1 x2 x3 : Int) (hl : l.length ≤ 4) (h1 : 1 ≤ l.length) (hok : okL true 0 l) (k : Nat) (hk : 20 ≤ k) : alu_All.f k l x0 x1 x2 x3 = some (((valL l : Nat) : Int), 0) := by
  unfold alu_All.f
  obtain ⟨k, rfl⟩ : ∃ q, k = q + 1 := ⟨k - 1, by omega⟩
  match l, hok, h1, hl with
  | x :: xs, ⟨n, j, hm, hj, hn, h0, hx, hok'⟩, _, hl =>
    obtain ⟨q1, q2, q3⟩ := rdS (x :: xs) xs x 0 rfl
    have hd3 : n * 2 ^ (16 * j) < 2 ^ (16 * (j + 1)) := by
      rw [show 16 * (j + 1) = 16 * j + 16 by omega, Nat.pow_add, Nat.mul_comm]
      exact Nat.mul_lt_mul_of_pos_left (by omega) (Nat.two_pow_pos _)
    simp only [alu_All.l0]
    rw [if_pos (by simp only [List.length_cons]; omega), if_pos (by decide), if_pos (by simp only [List.length_cons]; omega), show (0 : Int) = ((0 : Nat) : Int) from rfl, q1, hx]
    simp only [mkI, if_true]
    rw [show ((0 : Nat) : Int) = 0 from rfl, movz k (by omega) n j hn hj, Option.bind_some, if_pos rfl, w64s _ (by omega) (by omega), show ((0 : Int) + 1) = ((0 + 1 : Nat) : Int) by omega]
    have := all_next (mkI 1 n j :: xs) x1 x2 x3 (by simpa using hl) xs (j + 1) 1 k (n * 2 ^ (16 * j)) rfl hok' hd3 (by simp only [List.length_cons] at hl; omega)
    simp only [mkI] at this
    rw [this]
    rfl
theorem law_loop (v : Nat) (l : List S25) (x0 x1 x2 x3 : Int) (hl : l.length ≤ 4) (h1 : 1 ≤ l.length) (hok : okL true 0 l) (hv : valL l = v) : ∀ (xs : List S25) (b : Bool) (m i k : Nat), l.drop i = xs → okL b m xs → (b = true ↔ i = 0) → (0 < i → ∃ p : Nat, (rd_T25 l ((i - 1 : Nat) : Int)).f8 = (p : Int) ∧ p < 16 * m) → 60 + 2 * xs.length ≤ k →
    cleatlaw06_AluLoads.l0 k (v : Int) l (i : Int) x0 x1 x2 x3 = some true
  | [], b, m, i, k, h, _, _, _, hk => by
    obtain ⟨k, rfl⟩ : ∃ q, k = q + 1 := ⟨k - 1, by omega⟩
    have hi : l.length ≤ i := by
      rcases Nat.lt_or_ge i l.length with h1 | h1
      · rw [List.drop_eq_getElem_cons h1] at h; cases h
      · exact h1
    simp only [cleatlaw06_AluLoads.l0]
    rw [if_neg (by omega), all_at l x0 x1 x2 x3 hl h1 hok k (by omega), Option.bind_some, done_at k (by omega), Option.bind_some, if_pos rfl, if_pos (by omega), if_pos (by omega), if_pos rfl, hv, beq_self_eq_true]
  | x :: xs, b, m, i, k, h, ⟨n, j, hm, hj, hn, h0, hx, hok'⟩, hb, hp, hk => by
    obtain ⟨k, rfl⟩ : ∃ q, k = q + 2 := ⟨k - 2, by omega⟩
    obtain ⟨q1, q2, q3⟩ := rdS l xs x i h
    simp only [List.length_cons] at hk
    have hj1 : ∀ c : Bool, c = false → cleatlaw06_AluLoads.j1 (k + 1) (v : Int) l (i : Int) c x0 x1 x2 x3 = some true := by
      intro c hc
      subst hc
      simp only [cleatlaw06_AluLoads.j1]
      rw [if_neg (by decide), w64s _ (by omega) (by omega), show ((i : Int) + 1) = ((i + 1 : Nat) : Int) by omega]
      refine law_loop v l x0 x1 x2 x3 hl h1 hok hv xs false (j + 1) (i + 1) k q3 hok' (by simp) (fun _ => ⟨16 * j, ?_, by omega⟩) (by omega)
      rw [Nat.add_sub_cancel, q1, hx]
      rfl
    simp only [cleatlaw06_AluLoads.l0]
    rw [if_pos (by omega), if_pos (by omega), q1, hx]
    simp only [mkI]
    cases b with
    | true =>
      have hi : i = 0 := hb.1 rfl
      subst hi
      rw [if_pos rfl, isM (k + 1) (by omega) 1 n j (.inl rfl) hn hj, Option.bind_some, if_pos rfl, if_pos trivial]
      exact (if_neg (by decide)).trans ((if_neg (by decide)).trans (hj1 _ rfl))
    | false =>
      have hi : 0 < i := Nat.pos_of_ne_zero fun h => by have := hb.2 h; cases this
      obtain ⟨p, hp1, hp2⟩ := hp hi
      have hi0 : ((i : Int) == 0) = false := by simp; omega
      rw [if_neg (show ¬ (false = true) by decide), isM (k + 1) (by omega) 3 n j (.inr rfl) hn hj, Option.bind_some, if_pos rfl, if_pos trivial, hi0]
      refine (if_neg (by decide)).trans ?_
      rw [if_pos (show (i : Int) > 0 by omega)]
      refine (if_pos rfl).trans ?_
      refine (if_neg (show ¬ ((n : Int) = 0) by have := h0 rfl; omega)).trans ?_
      rw [w64s _ (by omega) (by omega), show ((i : Int) - 1) = ((i - 1 : Nat) : Int) by omega, hp1]
      refine (if_pos (show (0 : Int) ≤ ((i - 1 : Nat) : Int) by omega)).trans ((if_pos (show ((i - 1 : Nat) : Int) < (l.length : Int) by omega)).trans ?_)
      exact hj1 _ (by first | exact decide_eq_false (by omega) | (simp; omega))
theorem bounds64L {a : Int} (h : (Lit.int .u64 a).wf = true) : 0 ≤ a ∧ a < 18446744073709551616 := by
  simp [Lit.wf, IntKind.min, IntKind.max, IntKind.bits, IntKind.signed] at h; omega
theorem AluLoads (v x0 x1 x2 x3 : Int) (wv : (Lit.int .u64 v).wf = true) : cleatlaw06_AluLoads.f 100 v x0 x1 x2 x3 = some true := by
  have b := bounds64L wv
  obtain ⟨n, rfl⟩ := Int.eq_ofNat_of_zero_le b.1
  have hn : n < 18446744073709551616 := by omega
  obtain ⟨h1, h2, h3, h4⟩ := load_ok n hn
  unfold cleatlaw06_AluLoads.f
  rw [load_at n 100 hn (by omega), Option.bind_some]
  exact law_loop n (loadL n) x0 x1 x2 x3 h4 h3 h1 h2 (loadL n) true 0 0 100 rfl h1 (by simp) (fun h => absurd h (Nat.lt_irrefl 0)) (by omega)
theorem AluLoads_walk (a0 : Int) (a1_0 a1_1 a1_2 a1_3 : Int) (W : World) (w0 : (Lit.int .u64 a0).wf = true) (w1_0 : (Lit.int .u64 a1_0).wf = true) (w1_1 : (Lit.int .u64 a1_1).wf = true) (w1_2 : (Lit.int .u64 a1_2).wf = true) (w1_3 : (Lit.int .u64 a1_3).wf = true) (hTab : TabW W) :
    Calls Tryd.prog 6 #[.int .u64 a0, .agg #[.int .u64 a1_0, .int .u64 a1_1, .int .u64 a1_2, .int .u64 a1_3]] W fun e w' => e = .returned (.bool true) ∧ Below W.heap.size W w' :=
  cleatlaw06_AluLoads.calls 100 a0 a1_0 a1_1 a1_2 a1_3 true W (AluLoads a0 a1_0 a1_1 a1_2 a1_3 w0) hTab
end Go.Proofs.YtkmochnefidlmaaDoor.Pure
