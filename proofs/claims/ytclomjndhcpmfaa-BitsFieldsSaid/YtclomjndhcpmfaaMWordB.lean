/- Words out of fields: the program's loops and the document's come to one answer (chapter 1). -/
import Derived.Test.YtclomjndhcpmfaaMWord
namespace Go.Proofs.Ytclomjndhcpmfaa.M
open Go.RowKit Go.Proofs.Ytclomjndhcpmfaa.P Go.Proofs.YtclomjndhcpmfaaW.PrintWords Go.Proofs.YtclomjndhcpmfaaW.PrintLast Go.Proofs.YtclomjndhcpmfaaW.PrintMore

theorem shl_msk (f : Fld) (h : okF f = true) : shl .u64 (2 ^ f.f1.toNat - 1) f.f0 = ((mskN f : Nat) : Int) := by
  obtain ⟨A, M, h0, h1, h2, h3, h4⟩ := okI_nat _ _ h
  have hm := msk_lt f h
  unfold mskN at hm ⊢
  rw [h0, h1] at hm ⊢
  simp only [Int.toNat_natCast] at hm ⊢
  have e32 : (2 : Nat) ^ 32 = 4294967296 := by decide
  have hp := Nat.two_pow_pos M
  have e : ((2 : Int) ^ M - 1) * 2 ^ A = (((2 ^ M - 1) * 2 ^ A : Nat) : Int) := by
    rw [Int.natCast_mul, ← cast_pow, ← cast_pow]; congr 1; omega
  rw [shl_nat _ _ _ (by simp [IntKind.bits]; omega), e, u64_self _ (Int.natCast_nonneg _) (by omega)]
theorem ones_of (f : Fld) (h : okF f = true) : bits_ones.f f.f1 = some (2 ^ f.f1.toNat - 1) := by
  obtain ⟨A, M, h0, h1, h2, h3, h4⟩ := okI_nat _ _ h
  rw [h1]; exact ones_nat M (by omega)

theorem prog_scan (L : List Fld) (hL : L.length ≤ 40) (R : Int × Int) (K : Nat)
    (hR : ∀ k, K ≤ k → ((api_Field_56.f L).bind fun t => if t = true then some ((0 : Int), (4 : Int)) else bits_Word.l1 k 0 L (L.length : Int) 0) = some R ∨ scan L 0 = none) :
    ∀ (d i k t : Nat), i + d = L.length → K + d < k → t < 2 ^ 32 → scan L 0 = scan (L.drop i) t →
      bits_Word.l0 k L t L (L.length : Int) i = some (match scan L 0 with | none => ((0 : Int), (1 : Int)) | some _ => R) := by
  intro d
  induction d with
  | zero =>
    intro i k t hi hk ht hs
    obtain ⟨k, rfl⟩ : ∃ m, k = m + 1 := ⟨k - 1, by omega⟩
    rw [List.drop_of_length_le (by omega)] at hs
    have hs' : scan L 0 = some t := hs
    rw [bits_Word.l0, if_neg (by omega), hs']
    rcases hR k (by omega) with h | h
    · exact h
    · rw [h] at hs'; exact absurd hs' (by simp)
  | succ d ih =>
    intro i k t hi hk ht hs
    obtain ⟨k, rfl⟩ : ∃ m, k = m + 1 := ⟨k - 1, by omega⟩
    have hlt : i < L.length := by omega
    rw [List.drop_eq_getElem_cons hlt] at hs
    have hrd := rdF_nat L i hlt
    unfold rdF at hrd
    rw [bits_Word.l0, if_pos (by omega), if_pos (by omega), if_pos (by omega), hrd, right_spec, Option.bind_some]
    rw [scan] at hs
    by_cases h1 : okF L[i] = true
    · rw [if_pos h1] at hs
      have h1' : okI L[i].f0 L[i].f1 = true := h1
      obtain ⟨A, M, e0, e1, _⟩ := okI_nat _ _ h1'
      have hm := msk_lt L[i] h1
      have e64 := pow64
      have e32 : (2 : Nat) ^ 32 = 4294967296 := by decide
      rw [if_pos h1', ones_of _ h1, Option.bind_some, if_pos (by omega), shl_msk _ h1, u64_and_nat _ _ (by omega) (by omega), u64_or_nat _ _ (by omega) (by omega), wrap64_self ((i : Int) + 1) (by omega) (by omega)]
      by_cases h2 : t &&& mskN L[i] = 0
      · rw [if_pos h2] at hs
        rw [if_pos (by rw [h2]; rfl)]
        have := ih (i + 1) k (t ||| mskN L[i]) (by omega) (by omega) (Nat.or_lt_two_pow ht hm) hs
        exact this
      · rw [if_neg h2] at hs
        rw [if_neg (by omega), hs]
    · rw [if_neg h1] at hs
      have h1' : ¬ okI L[i].f0 L[i].f1 = true := h1
      rw [if_neg h1', hs]

theorem any_big : ∀ (L : List Fld), (∀ f, f ∈ L → okF f = true) → (∀ f, f ∈ L → good f) → bits_anyBig L = some (L.any bigF)
  | [], _, _ => rfl
  | f :: l, h, hg => by
    have hf := h f (List.mem_cons_self ..)
    have hgf := hg f (List.mem_cons_self ..)
    unfold bits_anyBig bits_big
    rw [ones_of f hf, Option.bind_some, Option.bind_some, any_big l (fun g hg' => h g (List.mem_cons_of_mem _ hg')) (fun g hg' => hg g (List.mem_cons_of_mem _ hg')), u64_self _ hgf.1 (by have := hgf.2; omega)]
    have e : decide (f.f2 > 2 ^ f.f1.toNat - 1) = bigF f := by
      unfold bigF
      rw [decide_eq_decide]
      have h0 := hgf.1
      rw [← cast_pow]
      omega
    rw [e, List.any_cons]
    cases bigF f <;> rfl
theorem shl_bits (f : Fld) (h : okF f = true) (hb : bigF f = false) (hg : good f) : shl .u32 f.f2 f.f0 = ((bitsN f : Nat) : Int) ∧ bitsN f < 2 ^ 32 := by
  obtain ⟨A, M, h0, h1, h2, h3, h4⟩ := okI_nat _ _ h
  have hV : f.f2.toNat < 2 ^ f.f1.toNat := by have := of_decide_eq_false hb; omega
  unfold bitsN
  rw [h0]
  rw [h1] at hV
  simp only [Int.toNat_natCast] at hV ⊢
  have hlt : f.f2.toNat * 2 ^ A < 2 ^ 32 := by
    have h5 : f.f2.toNat * 2 ^ A < 2 ^ M * 2 ^ A := Nat.mul_lt_mul_of_pos_right hV (Nat.two_pow_pos A)
    rw [← Nat.pow_add] at h5
    exact Nat.lt_of_lt_of_le h5 (Nat.pow_le_pow_right (by decide) (by omega))
  refine ⟨?_, hlt⟩
  have e32 : (2 : Nat) ^ 32 = 4294967296 := by decide
  rw [shl_nat _ _ _ (by simp [IntKind.bits]; omega), IntKind.wrap_u32]
  have e : f.f2 * 2 ^ A = ((f.f2.toNat * 2 ^ A : Nat) : Int) := by
    rw [Int.natCast_mul, cast_pow]; congr 1; have := hg.1; omega
  rw [e]
  exact Int.emod_eq_of_lt (Int.natCast_nonneg _) (by omega)
theorem prog_or (L : List Fld) (hL : L.length ≤ 40) (hok : ∀ f, f ∈ L → okF f = true) (hb : L.any bigF = false) (hg : ∀ f, f ∈ L → good f) : ∀ (d i k w : Nat), i + d = L.length → d < k → w < 2 ^ 32 →
    bits_Word.l1 k w L (L.length : Int) i = some (((orW (L.drop i) w : Nat) : Int), 0) := by
  intro d
  induction d with
  | zero =>
    intro i k w hi hk hw
    obtain ⟨k, rfl⟩ : ∃ m, k = m + 1 := ⟨k - 1, by omega⟩
    rw [bits_Word.l1, if_neg (by omega), List.drop_of_length_le (by omega)]; rfl
  | succ d ih =>
    intro i k w hi hk hw
    obtain ⟨k, rfl⟩ : ∃ m, k = m + 1 := ⟨k - 1, by omega⟩
    have hlt : i < L.length := by omega
    have hrd := rdF_nat L i hlt
    unfold rdF at hrd
    have hmem : L[i] ∈ L := List.getElem_mem hlt
    have hbi : bigF L[i] = false := by
      cases c : bigF L[i] with
      | false => rfl
      | true => rw [List.any_eq_true.2 ⟨L[i], hmem, c⟩] at hb; exact absurd hb (by decide)
    obtain ⟨A, M, e0, e1, _⟩ := okI_nat _ _ (hok _ hmem)
    obtain ⟨s1, s2⟩ := shl_bits L[i] (hok _ hmem) hbi (hg _ hmem)
    have e32 : (2 : Nat) ^ 32 = 4294967296 := by decide
    rw [bits_Word.l1, if_pos (by omega), if_pos (by omega), if_pos (by omega), hrd, if_pos (by omega), s1, u32_or_nat _ _ (by omega) (by omega), wrap64_self ((i : Int) + 1) (by omega) (by omega), List.drop_eq_getElem_cons hlt, orW]
    exact ih (i + 1) k (w ||| bitsN L[i]) (by omega) (by omega) (Nat.or_lt_two_pow hw s2)
theorem word_spec (k : Nat) (L : List Fld) (hk : 200 ≤ k) (hL : L.length ≤ 40) (hg : ∀ f, f ∈ L → good f) : bits_Word.f k L = some (wordV L) := by
  unfold bits_Word.f wordV
  cases hs : scan L 0 with
  | none =>
    have := prog_scan L hL (0, 0) 100 (fun k _ => .inr hs) L.length 0 k 0 (by omega) (by omega) (by decide) rfl
    rw [hs] at this
    exact this
  | some t' =>
    have hok := scan_ok L 0 t' hs
    have := prog_scan L hL (if L.any bigF then (0, 4) else (((orW L 0 : Nat) : Int), 0)) 100 (fun k hk => .inl (by
      unfold api_Field_56.f
      rw [any_big L hok hg, Option.bind_some]
      cases hb : L.any bigF with
      | true => rfl
      | false => exact prog_or L hL hok hb hg L.length 0 k 0 (by omega) (by omega) (by decide))) L.length 0 k 0 (by omega) (by omega) (by decide) rfl
    rw [hs] at this
    exact this
end Go.Proofs.Ytclomjndhcpmfaa.M
