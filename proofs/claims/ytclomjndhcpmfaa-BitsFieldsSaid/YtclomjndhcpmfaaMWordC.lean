/- Words out of fields: the document's answer (chapter 1). -/
import Derived.Test.YtclomjndhcpmfaaMWordB
namespace Go.Proofs.Ytclomjndhcpmfaa.M
open Go.RowKit Go.Proofs.Ytclomjndhcpmfaa.P Go.Proofs.YtclomjndhcpmfaaW.PrintWords Go.Proofs.YtclomjndhcpmfaaW.PrintLast Go.Proofs.YtclomjndhcpmfaaW.PrintMore

/-- The 32 places, as a row of bools. -/
def tk (t : Nat) : List Bool := (List.range 32).map fun i => t.testBit i
theorem tk_len (t : Nat) : (tk t).length = 32 := by simp [tk]
theorem tk_get (t i : Nat) (h : i < 32) : rdOf false (tk t) (i : Int) = t.testBit i := by
  unfold rdOf tk; rw [Int.toNat_natCast]; simp [List.getD, h]
theorem tk_set (t j : Nat) : (tk t).set ((j : Int)).toNat true = tk (t ||| 2 ^ j) := by
  rw [Int.toNat_natCast]
  apply List.ext_getElem
  · simp [tk]
  · intro i h1 h2
    simp only [tk, List.getElem_set, List.getElem_map, List.getElem_range, Nat.testBit_or, Nat.testBit_two_pow]
    by_cases e : j = i
    · simp [e]
    · simp [e]
theorem tk_zero : tk 0 = List.replicate 32 false := by decide +kernel
def seg (j d : Nat) : Nat := (2 ^ d - 1) * 2 ^ j
theorem seg_bit (j d i : Nat) : (seg j d).testBit i = decide (j ≤ i ∧ i < j + d) := by
  unfold seg
  rw [Nat.testBit_mul_two_pow, Nat.testBit_two_pow_sub_one, Bool.eq_iff_iff]; simp; omega
theorem seg_succ (t j d : Nat) : t ||| 2 ^ j ||| seg (j + 1) d = t ||| seg j (d + 1) := by
  apply Nat.eq_of_testBit_eq
  intro i
  rw [Nat.testBit_or, Nat.testBit_or, Nat.testBit_or, seg_bit, seg_bit, Nat.testBit_two_pow, Bool.or_assoc]
  congr 1
  rw [Bool.eq_iff_iff]; simp; omega

theorem inner_hit (L : List Fld) (i A M : Nat) (hlt : i < L.length) (e0 : L[i].f0 = A) (e1 : L[i].f1 = M) (hAM : A + M ≤ 32) : ∀ (d j k t : Nat), j + d = A + M → d < k →
    (∃ p, j ≤ p ∧ p < A + M ∧ t.testBit p = true) → cleatref01_Word.l1 k L (tk t) i j = some (0, 1) := by
  have hrd := rdF_nat L i hlt
  unfold rdF at hrd
  intro d
  induction d with
  | zero => intro j k t hj hk ⟨p, h1, h2, _⟩; omega
  | succ d ih =>
    intro j k t hj hk ⟨p, h1, h2, h3⟩
    obtain ⟨k, rfl⟩ : ∃ m, k = m + 1 := ⟨k - 1, by omega⟩
    rw [cleatref01_Word.l1, if_pos (by omega), if_pos (by omega), hrd, e0, e1, wrap64_self ((A : Int) + M) (by omega) (by omega), if_pos (by omega), if_pos (by omega), tk_len, if_pos (by omega), tk_get t j (by omega)]
    cases hb : t.testBit j with
    | true => rw [if_pos rfl]
    | false =>
      rw [if_neg (by decide), tk_set t j, wrap64_self ((j : Int) + 1) (by omega) (by omega)]
      have hne : p ≠ j := by intro e; rw [e, hb] at h3; exact absurd h3 (by decide)
      exact ih (j + 1) k (t ||| 2 ^ j) (by omega) (by omega) ⟨p, by omega, h2, by rw [Nat.testBit_or, h3]; rfl⟩
theorem inner_free (L : List Fld) (i A M : Nat) (hlt : i < L.length) (hL : L.length ≤ 40) (e0 : L[i].f0 = A) (e1 : L[i].f1 = M) (hAM : A + M ≤ 32) : ∀ (d j m t : Nat), j + d = A + M →
    (∀ p, j ≤ p → p < A + M → t.testBit p = false) → cleatref01_Word.l1 (m + d + 1) L (tk t) i j = cleatref01_Word.l0 m L (tk (t ||| seg j d)) ((i : Int) + 1) := by
  have hrd := rdF_nat L i hlt
  unfold rdF at hrd
  intro d
  induction d with
  | zero =>
    intro j m t hj hfree
    rw [cleatref01_Word.l1, if_pos (by omega), if_pos (by omega), hrd, e0, e1, wrap64_self ((A : Int) + M) (by omega) (by omega), if_neg (by omega), wrap64_self ((i : Int) + 1) (by omega) (by omega)]
    have : t ||| seg j 0 = t := by simp [seg]
    rw [this]
  | succ d ih =>
    intro j m t hj hfree
    rw [cleatref01_Word.l1, if_pos (by omega), if_pos (by omega), hrd, e0, e1, wrap64_self ((A : Int) + M) (by omega) (by omega), if_pos (by omega), if_pos (by omega), tk_len, if_pos (by omega), tk_get t j (by omega),
      hfree j (by omega) (by omega), if_neg (by decide), tk_set t j, wrap64_self ((j : Int) + 1) (by omega) (by omega), ← seg_succ]
    have := ih (j + 1) m (t ||| 2 ^ j) (by omega) (by
      intro p h1 h2
      rw [Nat.testBit_or, hfree p (by omega) h2, Nat.testBit_two_pow, decide_eq_false (by omega)]; rfl)
    exact this

theorem ref_scan (L : List Fld) (hL : L.length ≤ 40) (R : Int × Int) (K : Nat) (hR : ∀ k, K ≤ k → cleatref01_Word.l2 k L 0 0 = some R ∨ scan L 0 = none) :
    ∀ (d i k t : Nat), i + d = L.length → K + 40 * d < k → t < 2 ^ 32 → scan L 0 = scan (L.drop i) t →
      cleatref01_Word.l0 k L (tk t) i = some (match scan L 0 with | none => ((0 : Int), (1 : Int)) | some _ => R) := by
  intro d
  induction d with
  | zero =>
    intro i k t hi hk ht hs
    obtain ⟨k, rfl⟩ : ∃ m, k = m + 1 := ⟨k - 1, by omega⟩
    rw [List.drop_of_length_le (by omega)] at hs
    have hs' : scan L 0 = some t := hs
    rw [cleatref01_Word.l0, if_neg (by omega), hs']
    rcases hR k (by omega) with h | h
    · exact h
    · rw [h] at hs'; exact absurd hs' (by simp)
  | succ d ih =>
    intro i k t hi hk ht hs
    obtain ⟨k, rfl⟩ : ∃ m, k = m + 1 := ⟨k - 1, by omega⟩
    have hlt : i < L.length := by omega
    rw [List.drop_eq_getElem_cons hlt] at hs
    have hrd := rdF_nat L i hlt
    unfold rdF at hrd
    rw [cleatref01_Word.l0, if_pos (by omega), if_pos (by omega), hrd, ref_right_spec, Option.bind_some]
    rw [scan] at hs
    by_cases h1 : okF L[i] = true
    · rw [if_pos h1] at hs
      have h1' : okI L[i].f0 L[i].f1 = true := h1
      obtain ⟨A, M, e0, e1, _, _, hAM⟩ := okI_nat _ _ h1'
      have hm := msk_lt L[i] h1
      rw [if_pos h1', e0]
      by_cases h2 : t &&& mskN L[i] = 0
      · rw [if_pos h2] at hs
        have hfree : ∀ p, A ≤ p → p < A + M → t.testBit p = false := by
          intro p h3 h4
          cases c : t.testBit p with
          | false => rfl
          | true => exact absurd ⟨c, by rw [msk_bit, e0, e1]; simp only [Int.toNat_natCast]; exact decide_eq_true ⟨h3, h4⟩⟩ (and_zero_bits t _ h2 p)
        have hseg : seg A M = mskN L[i] := by unfold seg mskN; rw [e0, e1]; simp only [Int.toNat_natCast]
        obtain ⟨m, rfl⟩ : ∃ m, k = m + M + 1 := ⟨k - M - 1, by omega⟩
        rw [inner_free L i A M hlt hL e0 e1 hAM M A m t rfl hfree, hseg]
        exact ih (i + 1) m (t ||| mskN L[i]) (by omega) (by omega) (Nat.or_lt_two_pow ht hm) hs
      · rw [if_neg h2] at hs
        rw [hs]
        refine inner_hit L i A M hlt e0 e1 hAM M A k t rfl (by omega) ?_
        apply Classical.byContradiction
        intro hno
        apply h2
        apply Nat.eq_of_testBit_eq
        intro p
        rw [Nat.zero_testBit, Nat.testBit_and, msk_bit, e0, e1]
        simp only [Int.toNat_natCast]
        by_cases c : A ≤ p ∧ p < A + M
        · cases cc : t.testBit p with
          | false => rfl
          | true => exact absurd ⟨p, c.1, c.2, cc⟩ hno
        · rw [decide_eq_false c, Bool.and_false]
    · rw [if_neg h1] at hs
      have h1' : ¬ okI L[i].f0 L[i].f1 = true := h1
      rw [if_neg h1', hs]

theorem ref_small (k : Nat) (f : Fld) (hk : 70 ≤ k) (h : okF f = true) (hg : good f) : cleatref01_Small.f k (IntKind.u64.wrap f.f2) f.f1 = some (!bigF f) := by
  obtain ⟨A, M, h0, h1, h2, h3, h4⟩ := okI_nat _ _ h
  rw [u64_self _ hg.1 (by have := hg.2; omega), h1, small_nat k M _ hk (by omega) (by have := hg.2; omega)]
  unfold bigF
  rw [h1, Int.toNat_natCast, ← cast_pow]
  have := hg.1
  by_cases c : 2 ^ M ≤ f.f2.toNat
  · rw [decide_eq_true c, decide_eq_false (by omega)]; rfl
  · rw [decide_eq_false c, decide_eq_true (by omega)]; rfl
theorem ref_sum_big (L : List Fld) (hL : L.length ≤ 40) (hok : ∀ f, f ∈ L → okF f = true) (hg : ∀ f, f ∈ L → good f) : ∀ (d i k : Nat) (x : Int), i + d = L.length → 70 + d < k → (L.drop i).any bigF = true →
    cleatref01_Word.l2 k L x i = some (0, 4) := by
  intro d
  induction d with
  | zero => intro i k x hi hk hb; rw [List.drop_of_length_le (by omega)] at hb; exact absurd hb (by decide)
  | succ d ih =>
    intro i k x hi hk hb
    obtain ⟨k, rfl⟩ : ∃ m, k = m + 1 := ⟨k - 1, by omega⟩
    have hlt : i < L.length := by omega
    have hrd := rdF_nat L i hlt
    unfold rdF at hrd
    have hmem : L[i] ∈ L := List.getElem_mem hlt
    obtain ⟨A, M, e0, e1, _⟩ := okI_nat _ _ (hok _ hmem)
    rw [List.drop_eq_getElem_cons hlt, List.any_cons] at hb
    rw [cleatref01_Word.l2, if_pos (by omega), if_pos (by omega), hrd, ref_small k _ (by omega) (hok _ hmem) (hg _ hmem), Option.bind_some]
    cases c : bigF L[i] with
    | true => rw [if_neg (by decide)]
    | false =>
      rw [c, Bool.false_or] at hb
      rw [if_pos (by decide), e0, power_nat _ _ (by omega) (by omega), Option.bind_some, wrap64_self ((i : Int) + 1) (by omega) (by omega)]
      exact ih (i + 1) k _ (by omega) (by omega) hb
theorem ref_sum (L : List Fld) (hL : L.length ≤ 40) (hok : ∀ f, f ∈ L → okF f = true) (hg : ∀ f, f ∈ L → good f) (hb : L.any bigF = false) (T : Nat) (hT : T < 2 ^ 32) : ∀ (d i k s : Nat), i + d = L.length → 70 + d < k → s + sumW (L.drop i) = T →
    cleatref01_Word.l2 k L s i = some ((T : Int), 0) := by
  have e32 : (2 : Nat) ^ 32 = 4294967296 := by decide
  intro d
  induction d with
  | zero =>
    intro i k s hi hk hs
    obtain ⟨k, rfl⟩ : ∃ m, k = m + 1 := ⟨k - 1, by omega⟩
    rw [List.drop_of_length_le (by omega)] at hs
    have hs' : s = T := by simpa [sumW] using hs
    rw [cleatref01_Word.l2, if_neg (by omega), hs', Int.emod_eq_of_lt (Int.natCast_nonneg _) (by omega)]
  | succ d ih =>
    intro i k s hi hk hs
    obtain ⟨k, rfl⟩ : ∃ m, k = m + 1 := ⟨k - 1, by omega⟩
    have hlt : i < L.length := by omega
    have hrd := rdF_nat L i hlt
    unfold rdF at hrd
    have hmem : L[i] ∈ L := List.getElem_mem hlt
    have hbi : bigF L[i] = false := by
      cases c : bigF L[i] with
      | false => rfl
      | true => rw [List.any_eq_true.2 ⟨L[i], hmem, c⟩] at hb; exact absurd hb (by decide)
    obtain ⟨A, M, e0, e1, h2, h3, h4⟩ := okI_nat _ _ (hok _ hmem)
    have hgi := hg _ hmem
    obtain ⟨s1, s2⟩ := shl_bits L[i] (hok _ hmem) hbi hgi
    rw [List.drop_eq_getElem_cons hlt, sumW] at hs
    have e : L[i].f2 * 2 ^ A = ((bitsN L[i] : Nat) : Int) := by
      unfold bitsN
      rw [e0, Int.toNat_natCast, Int.natCast_mul, cast_pow]; congr 1; have := hgi.1; omega
    have hnb : ((bitsN L[i] : Nat) : Int) < 18446744073709551616 := by omega
    rw [cleatref01_Word.l2, if_pos (by omega), if_pos (by omega), hrd, ref_small k _ (by omega) (hok _ hmem) hgi, hbi, Option.bind_some, if_pos (by decide), e0, power_nat _ _ (by omega) (by omega), Option.bind_some, wrap64_self ((i : Int) + 1) (by omega) (by omega),
      u64_self _ hgi.1 (by have := hgi.2; omega), e, u64_self _ (Int.natCast_nonneg _) hnb, u64_self _ (by omega) (by omega)]
    have := ih (i + 1) k (s + bitsN L[i]) (by omega) (by omega) (by omega)
    rw [← this]; rfl
theorem ref_word_spec (k : Nat) (L : List Fld) (hk : 2000 ≤ k) (hL : L.length ≤ 40) (hg : ∀ f, f ∈ L → good f) : cleatref01_Word.f k L = some (wordV L) := by
  unfold cleatref01_Word.f wordV
  rw [if_pos (by decide), ← tk_zero]
  cases hs : scan L 0 with
  | none =>
    have := ref_scan L hL (0, 0) 200 (fun k _ => .inr hs) L.length 0 k 0 (by omega) (by omega) (by decide) rfl
    rw [hs] at this
    exact this
  | some t' =>
    have hok := scan_ok L 0 t' hs
    have := ref_scan L hL (if L.any bigF then (0, 4) else (((orW L 0 : Nat) : Int), 0)) 200 (fun k hk => .inl (by
      cases hb : L.any bigF with
      | true => exact ref_sum_big L hL hok hg L.length 0 k 0 (by omega) (by omega) (by rw [List.drop_zero]; exact hb)
      | false =>
        obtain ⟨f1, f2, _, _⟩ := word_fold L 0 t' 0 hs hb (by decide) (by decide) (fun i hi => hi)
        exact ref_sum L hL hok hg hb (orW L 0) f2 L.length 0 k 0 (by omega) (by omega) (by rw [List.drop_zero, f1]))) L.length 0 k 0 (by omega) (by omega) (by decide) rfl
    rw [hs] at this
    exact this
end Go.Proofs.Ytclomjndhcpmfaa.M
