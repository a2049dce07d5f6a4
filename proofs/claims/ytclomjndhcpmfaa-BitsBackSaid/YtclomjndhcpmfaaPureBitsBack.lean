/- Each field of a word reads as it was put, and a field put back among three that are all of a word makes that word: the Go law answers true for all fields, words and numbers. -/
import Derived.Test.YtclomjndhcpmfaaPx14
import Derived.Test.YtclomjndhcpmfaaMWordC
namespace Go.Proofs.Ytclomjndhcpmfaa.PureBack
open Go.RowKit Go.Proofs.Ytclomjndhcpmfaa.P Go.Proofs.YtclomjndhcpmfaaW.PrintWords Go.Proofs.YtclomjndhcpmfaaW.PrintLast Go.Proofs.YtclomjndhcpmfaaW.PrintMore Go.Proofs.Ytclomjndhcpmfaa.M

theorem okI_of (A M : Nat) (h1 : 1 ≤ M) (h2 : A + M ≤ 32) : okI A M = true := decide_eq_true (by omega)
theorem mod_bits (x A M V : Nat) (hV : V < 2 ^ M) (h : ∀ i, i < M → x.testBit (A + i) = V.testBit i) : x / 2 ^ A % 2 ^ M = V := by
  apply Nat.eq_of_testBit_eq
  intro i
  rw [Nat.testBit_mod_two_pow, Nat.testBit_div_two_pow]
  by_cases c : i < M
  · rw [decide_eq_true c, Bool.true_and, ← h i c, Nat.add_comm]
  · rw [decide_eq_false c, Bool.false_and, Nat.testBit_lt_two_pow (Nat.lt_of_lt_of_le hV (Nat.pow_le_pow_right (by decide) (by omega)))]
/-- What is read of a word made out of fields. -/
theorem reads (L : List Fld) (hg : ∀ f, f ∈ L → good f) (h0 : (wordV L).2 = 0) : 0 ≤ (wordV L).1 ∧ (wordV L).1 < 4294967296 ∧ ∀ f, f ∈ L → fieldV (wordV L).1 f.f0 f.f1 = (f.f2, 0) := by
  unfold wordV at h0 ⊢
  cases hs : scan L 0 with
  | none => rw [hs] at h0; exact absurd h0 (by simp)
  | some t' =>
    rw [hs] at h0
    dsimp only at h0 ⊢
    cases hb : L.any bigF with
    | true => rw [hb] at h0; exact absurd h0 (by simp)
    | false =>
      obtain ⟨_, f2, _, f4⟩ := word_fold L 0 t' 0 hs hb (by decide) (by decide) (fun i hi => hi)
      have e32 : (2 : Nat) ^ 32 = 4294967296 := by decide
      simp only [Bool.false_eq_true, if_false]
      refine ⟨Int.natCast_nonneg _, by omega, fun f hf => ?_⟩
      have hok := scan_ok L 0 t' hs f hf
      have hok' : okI f.f0 f.f1 = true := hok
      obtain ⟨A, M, e0, e1, _⟩ := okI_nat _ _ hok'
      have hbf : bigF f = false := by
        cases c : bigF f with
        | false => rfl
        | true => rw [List.any_eq_true.2 ⟨f, hf, c⟩] at hb; exact absurd hb (by decide)
      have hV : f.f2.toNat < 2 ^ f.f1.toNat := by have := of_decide_eq_false hbf; omega
      have h4 := f4 f hf
      have hgf := (hg f hf).1
      rw [e0, e1] at hok' ⊢
      rw [e0, e1] at h4
      rw [e1] at hV
      simp only [Int.toNat_natCast] at h4 hV
      rw [fieldV_nat _ A M hok']
      have := mod_bits _ A M _ hV h4
      congr 1
      rw [← cast_pow, ← cast_pow]
      have e : ((orW L 0 : Nat) : Int) / ((2 ^ A : Nat) : Int) % ((2 ^ M : Nat) : Int) = ((orW L 0 / 2 ^ A % 2 ^ M : Nat) : Int) := by simp
      rw [e, this]
      omega
/-- Three fields that are all of a word make that word. -/
theorem three (w A M : Nat) (hw : w < 2 ^ 32) (hA : 1 ≤ A) (hM : 1 ≤ M) (h : A + M ≤ 31) :
    wordV [⟨0, (A : Int), (w : Int) % 2 ^ A⟩, ⟨(A : Int), (M : Int), (w : Int) / 2 ^ A % 2 ^ M⟩, ⟨((A + M : Nat) : Int), ((32 - A - M : Nat) : Int), (w : Int) / 2 ^ (A + M) % 2 ^ (32 - A - M)⟩] = ((w : Int), 0) := by
  have c1 : ((w : Int) % 2 ^ A) = ((w % 2 ^ A : Nat) : Int) := by simp
  have c2 : ((w : Int) / 2 ^ A % 2 ^ M) = ((w / 2 ^ A % 2 ^ M : Nat) : Int) := by simp
  have c3 : ((w : Int) / 2 ^ (A + M) % 2 ^ (32 - A - M)) = ((w / 2 ^ (A + M) : Nat) : Int) := by
    have hq : w / 2 ^ (A + M) < 2 ^ (32 - A - M) := by
      apply Nat.div_lt_of_lt_mul
      rw [← Nat.pow_add, show A + M + (32 - A - M) = 32 by omega]; exact hw
    have e : ((w : Int) / 2 ^ (A + M) % 2 ^ (32 - A - M)) = ((w / 2 ^ (A + M) % 2 ^ (32 - A - M) : Nat) : Int) := by simp
    rw [e, Nat.mod_eq_of_lt hq]
  rw [c1, c2, c3]
  generalize hL : ([⟨0, (A : Int), ((w % 2 ^ A : Nat) : Int)⟩, ⟨(A : Int), (M : Int), ((w / 2 ^ A % 2 ^ M : Nat) : Int)⟩, ⟨((A + M : Nat) : Int), ((32 - A - M : Nat) : Int), ((w / 2 ^ (A + M) : Nat) : Int)⟩] : List Fld) = L
  have m1 : mskN (⟨0, (A : Int), ((w % 2 ^ A : Nat) : Int)⟩ : Fld) = 2 ^ A - 1 := by unfold mskN; simp
  have ms : ∀ (a n : Nat) (v : Int) (i : Nat), (mskN (⟨(a : Int), (n : Int), v⟩ : Fld)).testBit i = decide (a ≤ i ∧ i < a + n) := by
    intro a n v i; rw [msk_bit]; simp only [Int.toNat_natCast]
  have z0 : ∀ x : Nat, 0 &&& x = 0 := fun x => Nat.zero_and x
  have d2 : (0 ||| mskN (⟨((0 : Nat) : Int), (A : Int), ((w % 2 ^ A : Nat) : Int)⟩ : Fld)) &&& mskN (⟨(A : Int), (M : Int), ((w / 2 ^ A % 2 ^ M : Nat) : Int)⟩ : Fld) = 0 := by
    apply Nat.eq_of_testBit_eq
    intro i
    rw [Nat.zero_testBit, Nat.testBit_and, Nat.zero_or, ms, ms, Bool.eq_iff_iff]
    simp; omega
  have d3 : (0 ||| mskN (⟨((0 : Nat) : Int), (A : Int), ((w % 2 ^ A : Nat) : Int)⟩ : Fld) ||| mskN (⟨(A : Int), (M : Int), ((w / 2 ^ A % 2 ^ M : Nat) : Int)⟩ : Fld)) &&& mskN (⟨((A + M : Nat) : Int), ((32 - A - M : Nat) : Int), ((w / 2 ^ (A + M) : Nat) : Int)⟩ : Fld) = 0 := by
    apply Nat.eq_of_testBit_eq
    intro i
    rw [Nat.zero_testBit, Nat.testBit_and, Nat.testBit_or, Nat.zero_or, ms, ms, ms, Bool.eq_iff_iff]
    simp; omega
  have o1 : okF (⟨((0 : Nat) : Int), (A : Int), ((w % 2 ^ A : Nat) : Int)⟩ : Fld) = true := okI_of 0 A hA (by omega)
  have o2 : okF (⟨(A : Int), (M : Int), ((w / 2 ^ A % 2 ^ M : Nat) : Int)⟩ : Fld) = true := okI_of A M hM (by omega)
  have o3 : okF (⟨((A + M : Nat) : Int), ((32 - A - M : Nat) : Int), ((w / 2 ^ (A + M) : Nat) : Int)⟩ : Fld) = true := okI_of (A + M) (32 - A - M) (by omega) (by omega)
  have b1 : bigF (⟨((0 : Nat) : Int), (A : Int), ((w % 2 ^ A : Nat) : Int)⟩ : Fld) = false := by
    unfold bigF; simp only [Int.toNat_natCast]; exact decide_eq_false (Nat.not_le.2 (Nat.mod_lt _ (Nat.two_pow_pos A)))
  have b2 : bigF (⟨(A : Int), (M : Int), ((w / 2 ^ A % 2 ^ M : Nat) : Int)⟩ : Fld) = false := by
    unfold bigF; simp only [Int.toNat_natCast]; exact decide_eq_false (Nat.not_le.2 (Nat.mod_lt _ (Nat.two_pow_pos M)))
  have b3 : bigF (⟨((A + M : Nat) : Int), ((32 - A - M : Nat) : Int), ((w / 2 ^ (A + M) : Nat) : Int)⟩ : Fld) = false := by
    unfold bigF; simp only [Int.toNat_natCast]
    refine decide_eq_false (Nat.not_le.2 ?_)
    apply Nat.div_lt_of_lt_mul
    rw [← Nat.pow_add, show A + M + (32 - A - M) = 32 by omega]; exact hw
  have hL' : L = [⟨((0 : Nat) : Int), (A : Int), ((w % 2 ^ A : Nat) : Int)⟩, ⟨(A : Int), (M : Int), ((w / 2 ^ A % 2 ^ M : Nat) : Int)⟩, ⟨((A + M : Nat) : Int), ((32 - A - M : Nat) : Int), ((w / 2 ^ (A + M) : Nat) : Int)⟩] := hL.symm
  have hs : ∃ t', scan L 0 = some t' := by
    cases e : scan L 0 with
    | some t' => exact ⟨t', rfl⟩
    | none =>
      rw [hL', scan, if_pos o1, if_pos (z0 _), scan, if_pos o2, if_pos d2, scan, if_pos o3, if_pos d3, scan] at e
      exact absurd e (by simp)
  obtain ⟨t', hs⟩ := hs
  have hb : L.any bigF = false := by rw [hL']; simp only [List.any_cons, List.any_nil, b1, b2, b3]; rfl
  obtain ⟨f1, _⟩ := word_fold L 0 t' 0 hs hb (by decide) (by decide) (fun i hi => hi)
  have hsum : sumW L = w := by
    rw [hL']
    simp only [sumW, bitsN, Int.toNat_natCast]
    have e1 := Nat.div_add_mod w (2 ^ A)
    have e2 := Nat.div_add_mod (w / 2 ^ A) (2 ^ M)
    rw [Nat.div_div_eq_div_mul, ← Nat.pow_add] at e2
    generalize w / 2 ^ A % 2 ^ M = y at *
    generalize w / 2 ^ (A + M) = z at *
    rw [← e2, Nat.mul_add, ← Nat.mul_assoc, ← Nat.pow_add] at e1
    rw [Nat.mul_comm y, Nat.mul_comm z, Nat.pow_zero]
    omega
  unfold wordV
  rw [hs]
  dsimp only
  rw [hb, f1, hsum, Nat.zero_add]
  rfl

theorem back_end (k : Nat) (w a n : Int) (b : Bool) (hk : 1000 ≤ k) (w0 : 0 ≤ w) (w1 : w < 4294967296) (hb : b = true ∨ (b = false ∧ 1 ≤ a ∧ a ≤ 30 ∧ 1 ≤ n ∧ n ≤ 31 - a)) : cleatlaw01_BitsBack.j2 k w a n b = some true := by
  obtain ⟨k, rfl⟩ : ∃ m, k = m + 1 := ⟨k - 1, by omega⟩
  rw [cleatlaw01_BitsBack.j2]
  rcases hb with rfl | ⟨rfl, a0, a1, n0, n1⟩
  · rw [if_pos rfl, told_ok _ (by omega)]; rfl
  · obtain ⟨A, rfl⟩ := Int.eq_ofNat_of_zero_le (show 0 ≤ a by omega)
    obtain ⟨M, rfl⟩ := Int.eq_ofNat_of_zero_le (show 0 ≤ n by omega)
    obtain ⟨V, rfl⟩ := Int.eq_ofNat_of_zero_le w0
    have hV : V < 2 ^ 32 := by rw [show (2 : Nat) ^ 32 = 4294967296 by decide]; omega
    have q1 : fieldV (V : Int) 0 A = ((V : Int) % 2 ^ A, 0) := by
      have := fieldV_nat (V : Int) 0 A (okI_of 0 A (by omega) (by omega))
      rw [Int.pow_zero, Int.ediv_one] at this
      exact this
    have q2 := fieldV_nat (V : Int) A M (okI_of A M (by omega) (by omega))
    have q3 := fieldV_nat (V : Int) (A + M) (32 - A - M) (okI_of (A + M) (32 - A - M) (by omega) (by omega))
    have g : ∀ x : Int, ∀ m : Nat, m ≤ 32 → 0 ≤ x % 2 ^ m ∧ x % 2 ^ m < 4294967296 := by
      intro x m hm
      have h1 := pow_pos m
      have h2 := pow_small m hm
      have h3 := Int.emod_nonneg x (show (2 : Int) ^ m ≠ 0 by omega)
      have h4 := Int.emod_lt_of_pos x h1
      exact ⟨h3, by omega⟩
    rw [if_neg (by decide), field_spec _ 0 A w0 w1, Option.bind_some, field_spec _ A M w0 w1, Option.bind_some, wrap64_self ((A : Int) + M) (by omega) (by omega), wrap64_self ((32 : Int) - A) (by omega) (by omega), wrap64_self ((32 : Int) - A - M) (by omega) (by omega),
      show (A : Int) + M = ((A + M : Nat) : Int) by omega, show (32 : Int) - A - M = ((32 - A - M : Nat) : Int) by omega, field_spec _ _ _ w0 w1, Option.bind_some, q1, q2, q3]
    dsimp only
    rw [word_spec _ _ (by omega) (by simp) (by
      intro f hf
      simp only [List.mem_cons, List.not_mem_nil, or_false] at hf
      rcases hf with rfl | rfl | rfl
      · exact g _ A (by omega)
      · exact g _ M (by omega)
      · exact g _ (32 - A - M) (by omega)), Option.bind_some, told_ok _ (by omega), Option.bind_some, three V A M hV (by omega) (by omega) (by omega)]
    simp
theorem back_loop (L : List Fld) (hL : L.length ≤ 40) (hg : ∀ f, f ∈ L → good f) (w a n : Int) (w0 : 0 ≤ w) (w1 : w < 4294967296) : ∀ (d i k : Nat), i + d = L.length → 1100 + 2 * d ≤ k →
    cleatlaw01_BitsBack.l0 k L w a n (wordV L).1 (wordV L).2 i = some true := by
  have fin : ∀ (i k : Nat), 1050 ≤ k → cleatlaw01_BitsBack.j1 k L w a n (wordV L).1 (wordV L).2 i false = some true := by
    intro i k hk
    obtain ⟨k, rfl⟩ : ∃ m, k = m + 1 := ⟨k - 1, by omega⟩
    rw [cleatlaw01_BitsBack.j1, if_neg (by decide)]
    by_cases h1 : a < 1
    · rw [if_pos h1]; exact back_end k w a n true (by omega) w0 w1 (.inl rfl)
    · rw [if_neg h1]
      by_cases h2 : a > 30
      · rw [if_pos h2]; exact back_end k w a n true (by omega) w0 w1 (.inl rfl)
      · rw [if_neg h2]
        by_cases h3 : n < 1
        · rw [if_pos h3]; exact back_end k w a n true (by omega) w0 w1 (.inl rfl)
        · rw [if_neg h3, wrap64_self _ (by omega) (by omega)]
          by_cases h4 : n > 31 - a
          · rw [decide_eq_true h4]; exact back_end k w a n true (by omega) w0 w1 (.inl rfl)
          · rw [decide_eq_false h4]; exact back_end k w a n false (by omega) w0 w1 (.inr ⟨rfl, by omega, by omega, by omega, by omega⟩)
  intro d
  induction d with
  | zero =>
    intro i k hi hk
    obtain ⟨k, rfl⟩ : ∃ m, k = m + 1 := ⟨k - 1, by omega⟩
    rw [cleatlaw01_BitsBack.l0, if_neg (by omega)]
    exact fin i k (by omega)
  | succ d ih =>
    intro i k hi hk
    obtain ⟨k, rfl⟩ : ∃ m, k = m + 2 := ⟨k - 2, by omega⟩
    have hlt : i < L.length := by omega
    have hrd := rdF_nat L i hlt
    unfold rdF at hrd
    rw [cleatlaw01_BitsBack.l0, if_pos (by omega)]
    by_cases h0 : (wordV L).2 = 0
    · obtain ⟨r0, r1, r2⟩ := reads L hg h0
      have hf := r2 L[i] (List.getElem_mem hlt)
      rw [h0, show ((0 : Int) == 0) = true by decide, cleatlaw01_BitsBack.j1, if_pos rfl, if_pos (by omega), if_pos (by omega), hrd, field_spec _ _ _ r0 r1, Option.bind_some, hf]
      dsimp only
      rw [if_pos rfl, if_pos rfl, wrap64_self ((i : Int) + 1) (by omega) (by omega)]
      have := ih (i + 1) k (by omega) (by omega)
      rw [h0] at this
      exact this
    · rw [show ((wordV L).2 == 0) = false by simpa using h0]
      exact fin i _ (by omega)
theorem back (L : List Fld) (w a n : Int) (w0 : 0 ≤ w) (w1 : w < 4294967296) (hg : ∀ f, f ∈ L → good f) : cleatlaw01_BitsBack.f 3000 L w a n = some true := by
  unfold cleatlaw01_BitsBack.f
  by_cases h : (L.length : Int) > 40
  · rw [if_pos h]
  · have hL : L.length ≤ 40 := by omega
    rw [if_neg h, word_spec _ L (by omega) hL hg, Option.bind_some]
    exact back_loop L hL hg w a n w0 w1 L.length 0 3000 (by omega) (by omega)
theorem BitsBack_walk (A0 : Option Addr) (c0 : Nat) (l0 : List Fld) (w a n : Int) (W : World) (hr0 : Kd.C k56 W A0 l0.length l0) (hc0 : l0.length ≤ c0)
    (hg0 : ∀ f, f ∈ l0 → (Lit.int .i64 f.f0).wf = true ∧ (Lit.int .i64 f.f1).wf = true ∧ (Lit.int .u32 f.f2).wf = true) (h1 : (Lit.int .u32 w).wf = true) (_h2 : (Lit.int .i64 a).wf = true) (_h3 : (Lit.int .i64 n).wf = true) :
    Calls Try.prog 12 #[.slice A0 l0.length c0, .int .u32 w, .int .i64 a, .int .i64 n] W fun e w' => e = .returned (.bool true) ∧ Below W.heap.size W w' :=
  cleatlaw01_BitsBack.calls 3000 A0 c0 l0 w a n true W hr0 hc0 (back l0 w a n (bounds_u32 h1).1 (bounds_u32 h1).2 fun f hf => bounds_u32 (hg0 f hf).2.2)
end Go.Proofs.Ytclomjndhcpmfaa.PureBack
