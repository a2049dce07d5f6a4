/- What is applied leads where it is to: the Go law answers true for every kind, bytes and places. -/
import Derived.Test.YtkpkkjbigndnoaaDoorMFixC
import Derived.Test.YtkpkkjbigndnoaaDoorPx17
namespace Go.Proofs.YtkpkkjbigndnoaaDoor.Pure
open Go.RowKit Go.Proofs.YtkpkkjbigndnoaaDoor.P Go.Proofs.YtkpkkjbigndnoaaDoorW.PrintWords Go.Proofs.YtkpkkjbigndnoaaDoorW.PrintLast Go.Proofs.YtkpkkjbigndnoaaDoorW.PrintMore Go.Proofs.YtkpkkjbigndnoaaDoor.M
set_option linter.unusedVariables false
set_option linter.unusedSimpArgs false
theorem bytes_8 (v : Int) (h0 : 0 ≤ v) (h1 : v < 18446744073709551616) : fix_bytes.f v 8 = some (strOfNums (fix_leL v 8)) := by
  unfold fix_bytes.f
  rw [if_pos (.inr rfl), if_pos ⟨h0, h1⟩]
  rfl
theorem bytes_4 (v : Int) (h0 : 0 ≤ v) (h1 : v < 4294967296) : fix_bytes.f (IntKind.u64.wrap v) 4 = some (strOfNums (fix_leL v 4)) := by
  unfold fix_bytes.f
  rw [show IntKind.u64.wrap v = v by rw [IntKind.wrap_u64]; omega, if_pos (.inl rfl), if_pos ⟨h0, by omega⟩]
  rfl
theorem empty_list : ((⟨#[]⟩ : ByteArray).toList == ([] : List UInt8)) = true := by rw [ByteArray.toList_eq]; rfl
theorem leads_far (j a b : Int) (h : j < 6) (b0 : 0 ≤ b) (b1 : b < 18446744073709551616) : IntKind.u64.wrap (a + IntKind.u64.wrap (valN j a b)) = b := by
  unfold valN
  rw [if_pos h]
  unfold wrap64
  simp only [IntKind.wrap_u64]
  omega
theorem leads_page (a b : Int) (b0 : 0 ≤ b) (b1 : b < 18446744073709551616) : IntKind.u64.wrap ((a - a % 4096) + IntKind.u64.wrap (4096 * IntKind.u64.wrap (valN 6 a b))) = b - b % 4096 := by
  unfold valN
  rw [if_neg (by omega), if_pos rfl]
  obtain ⟨d, hd⟩ : ∃ d, d = wrap64 (IntKind.u64.wrap ((b - b % 4096) - (a - a % 4096))) := ⟨_, rfl⟩
  have h1 : d % 4096 = 0 := by rw [hd]; unfold wrap64; simp only [IntKind.wrap_u64]; omega
  have h2 : d.tdiv 4096 = d / 4096 := Int.tdiv_eq_ediv_of_dvd (Int.dvd_of_emod_eq_zero h1)
  have h3 : -9223372036854775808 ≤ d ∧ d < 9223372036854775808 := by rw [hd]; unfold wrap64; omega
  rw [← hd, h2]
  have h4 : wrap64 (d / 4096) = d / 4096 := by unfold wrap64; omega
  rw [h4]
  have h5 : (d - ((b - b % 4096) - (a - a % 4096))) % 18446744073709551616 = 0 := by rw [hd]; unfold wrap64; simp only [IntKind.wrap_u64]; omega
  clear hd h2 h4
  simp only [IntKind.wrap_u64]
  omega
theorem FixLeads : cleatlaw26_FixLeads.Pure := by
  intro a0 a1 a2 a3 w0 w1 w2 w3
  have b2 : 0 ≤ a2 ∧ a2 < 18446744073709551616 := by simp [Lit.wf, IntKind.min, IntKind.max, IntKind.bits, IntKind.signed] at w2; omega
  have b3 : 0 ≤ a3 ∧ a3 < 18446744073709551616 := by simp [Lit.wf, IntKind.min, IntKind.max, IntKind.bits, IntKind.signed] at w3; omega
  refine ⟨1000, ?_⟩
  have hx := fixed_at 1000 (by decide)
  unfold cleatlaw26_FixLeads.f
  by_cases h40 : (a1.size : Int) > 40
  · rw [if_pos h40]
  · rw [if_neg h40]
    unfold fix_Apply.f
    rw [right_at, Option.bind_some]
    by_cases h1 : a0 = 1
    · subst h1
      rw [if_pos rfl]
      by_cases h8 : a1.size = 8
      · rw [if_pos (by simp [h8]), if_pos rfl, bytes_8 a3 b3.1 b3.2, Option.bind_some, Option.bind_some, if_pos rfl, if_neg (by decide)]
        unfold fix_Goal.f
        rw [right_at, Option.bind_some, if_pos rfl, if_pos (by rw [size_leL]; rfl), number_leL 1000 (by decide) a3 8 (by decide) b3.1 (by omega), Option.bind_some, if_pos rfl, Option.bind_some, if_neg (by decide), hx, Option.bind_some, if_pos rfl, if_pos rfl, if_pos rfl]
        simp only
        rw [size_leL, h8]
        rfl
      · rw [if_neg (by simp; omega), Option.bind_some, if_neg (by decide), hx, Option.bind_some, if_pos rfl, empty_list]
    · rw [if_neg h1]
      by_cases hr : a0 > 1 ∧ a0 ≤ 9
      · rw [if_pos hr]
        by_cases h4 : a1.size = 4
        · have hl := leV_lt (byV a1) (bytes_isBy a1)
          rw [byV_length, h4] at hl
          obtain ⟨W, hW⟩ := Int.eq_ofNat_of_zero_le hl.1
          have hWl : W < 4294967296 := by omega
          rw [if_pos (by simp [h4]), if_neg h1, number_at 1000 (by decide) a1 (by omega), Option.bind_some, hW, show (W : Int) % 4294967296 = W by omega]
          rcases word_at a0 a2 a3 W hWl b2.1 b2.2 b3.1 b3.2 with ⟨c, X, hf, j2, j9, hv, hval, hw, hX, him, hD, hE⟩ | ⟨e, he, hw, hrr⟩
          · rw [hw, Option.bind_some, if_pos rfl]
            simp only
            rw [bytes_4 (X : Int) (by omega) (by omega), Option.bind_some, Option.bind_some, if_pos rfl]
            unfold fix_Goal.f
            rw [right_at, if_neg h1]
            by_cases h6 : a0 > 6
            · rw [if_pos h6, if_neg (by omega), Option.bind_some, if_neg (by decide), Option.bind_some, hx, Option.bind_some, if_pos rfl, if_pos rfl]
              simp only
              rw [size_leL]
              rfl
            · rw [if_neg h6, if_pos (by omega), Option.bind_some]
              simp only
              rw [if_pos (by rw [size_leL]; rfl), number_leL 1000 (by decide) (X : Int) 4 (by decide) (by omega) (by omega), Option.bind_some, if_neg h1, show (X : Int) % 4294967296 = X by omega, hD, Option.bind_some]
              simp only [tup]
              rw [hE, Option.bind_some]
              simp only [if_true]
              rw [hf, Option.bind_some]
              simp only [if_true]
              by_cases h66 : a0 = 6
              · subst h66
                rw [if_pos rfl, Option.bind_some, if_pos rfl, hx, Option.bind_some, if_pos rfl, if_pos rfl, andNot_page a2 b2.1 b2.2]
                simp only
                rw [leads_page a2 a3 b3.1 b3.2, Int.tmod_eq_emod_of_nonneg b3.1, show IntKind.u64.wrap (a3 - a3 % 4096) = a3 - a3 % 4096 by rw [IntKind.wrap_u64]; omega]
                simp
              · rw [if_neg h66, Option.bind_some, if_neg h66, hx, Option.bind_some, if_pos rfl, if_pos rfl, if_pos (leads_far a0 a2 a3 (by omega) b3.1 b3.2)]
                rw [size_leL, h4]
                rfl
          · rw [hw, Option.bind_some, if_neg he, Option.bind_some, if_neg he, hx, Option.bind_some, if_pos rfl, empty_list]
        · rw [if_neg (by simp; omega), Option.bind_some, if_neg (by decide), hx, Option.bind_some, if_pos rfl, empty_list]
      · rw [if_neg hr, if_neg (by decide), Option.bind_some, if_neg (by decide), hx, Option.bind_some, if_pos rfl, empty_list]
end Go.Proofs.YtkpkkjbigndnoaaDoor.Pure
