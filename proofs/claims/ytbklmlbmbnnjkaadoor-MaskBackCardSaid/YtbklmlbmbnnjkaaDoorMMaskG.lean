/- What is a mask, by program and document; any three numbers (chapter 2). -/
import Derived.Test.YtbklmlbmbnnjkaaDoorMMaskF
import Derived.Test.YtbklmlbmbnnjkaaDoorPx7
import Derived.Test.YtbklmlbmbnnjkaaDoorPx7
namespace Go.Proofs.YtbklmlbmbnnjkaaDoor.M
open Go.RowKit Go.Proofs.YtbklmlbmbnnjkaaDoor.P Go.Proofs.YtbklmlbmbnnjkaaDoorW.PrintWords Go.Proofs.YtbklmlbmbnnjkaaDoorW.PrintLast Go.Proofs.YtbklmlbmbnnjkaaDoorW.PrintMore

theorem masked_ok (k : Nat) (h : 300 ≤ k) : cleatlaw02_masked.f k = some true :=
  at_rounds cleatlaw02_masked.mono h (by decide +kernel)
theorem is_of_enc {k : Nat} {v a b c : Int} (h : mask_Encode.f k v = some (a, b, c, 0)) : mask_Is.f k v = some true := by
  unfold mask_Encode.f at h
  obtain ⟨t, ht, h⟩ := Option.bind_eq_some_iff.mp h
  cases t with
  | true => exact ht
  | false =>
    rw [if_neg (by decide)] at h
    simp at h
theorem is_of_none {k : Nat} {v : Int} (h : mask_Encode.f k v = some (0, 0, 0, 3)) : mask_Is.f k v = some false := by
  unfold mask_Encode.f at h
  obtain ⟨t, ht, h⟩ := Option.bind_eq_some_iff.mp h
  cases t with
  | false => exact ht
  | true =>
    rw [if_pos rfl] at h
    obtain ⟨p, _, h⟩ := Option.bind_eq_some_iff.mp h
    simp at h
theorem ref_is_of {k : Nat} {v a b c e : Int} (h : cleatref02_Encode.f k v = some (a, b, c, e)) : cleatref02_Is.f k v = some (e == 0) := by
  unfold cleatref02_Is.f
  rw [h, Option.bind_some]
theorem ref_dec_bad (k : Nat) (n r s : Int) (hk : 1 ≤ k) (h : ¬ (0 ≤ n ∧ n ≤ 1 ∧ 0 ≤ r ∧ r ≤ 63 ∧ 0 ≤ s ∧ s ≤ 63)) : cleatref02_Decode.f k n r s = some (0, 1) := by
  obtain ⟨k, rfl⟩ : ∃ m, k = m + 1 := ⟨k - 1, by omega⟩
  have hj : ∀ b : Bool, b = true → cleatref02_Decode.j0 (k + 1) n r s b = some (0, 1) := by
    intro b hb
    simp only [cleatref02_Decode.j0]
    rw [if_pos hb]
  unfold cleatref02_Decode.f
  repeat' split
  all_goals first | exact hj _ rfl | exact hj _ (decide_eq_true (by omega))
theorem ref_dec_spec (k n r s : Nat) (hk : 600 ≤ k) (hn : n ≤ 1) (hr : r ≤ 63) (hs : s ≤ 63) : cleatref02_Decode.f k (n : Int) (r : Int) (s : Int) = some (decV n r s) := by
  obtain ⟨k, rfl⟩ : ∃ m, k = m + 1 := ⟨k - 1, by omega⟩
  have hj : ∀ b : Bool, b = false → cleatref02_Decode.j0 (k + 1) (n : Int) (r : Int) (s : Int) b = some (decV n r s) := by
    intro b hb
    simp only [cleatref02_Decode.j0]
    rw [if_neg (by rw [hb]; decide)]
    exact ref_dec_loop k n r s (by omega) hn hs
  unfold cleatref02_Decode.f
  rw [if_neg (by omega), if_neg (by omega), if_neg (by omega), if_neg (by omega), if_neg (by omega)]
  exact hj _ (decide_eq_false (by omega))
/-- What three numbers tell. -/
theorem dec_cases (k : Nat) (n r s : Int) (hk : 600 ≤ k) :
    (∃ a b c : Nat, n = a ∧ r = b ∧ s = c ∧ a ≤ 1 ∧ b ≤ 63 ∧ c ≤ 63 ∧ mask_Decode.f k n r s = some (decV a b c) ∧ cleatref02_Decode.f k n r s = some (decV a b c)) ∨
    (mask_Decode.f k n r s = some (0, 1) ∧ cleatref02_Decode.f k n r s = some (0, 1)) := by
  by_cases h : 0 ≤ n ∧ n ≤ 1 ∧ 0 ≤ r ∧ r ≤ 63 ∧ 0 ≤ s ∧ s ≤ 63
  · obtain ⟨a, rfl⟩ := Int.eq_ofNat_of_zero_le h.1
    obtain ⟨b, rfl⟩ := Int.eq_ofNat_of_zero_le h.2.2.1
    obtain ⟨c, rfl⟩ := Int.eq_ofNat_of_zero_le h.2.2.2.2.1
    exact Or.inl ⟨a, b, c, rfl, rfl, rfl, by omega, by omega, by omega, dec_spec k a b c (by omega) (by omega) (by omega) (by omega), ref_dec_spec k a b c (by omega) (by omega) (by omega) (by omega)⟩
  · exact Or.inr ⟨dec_bad k n r s h, ref_dec_bad k n r s (by omega) h⟩
end Go.Proofs.YtbklmlbmbnnjkaaDoor.M
