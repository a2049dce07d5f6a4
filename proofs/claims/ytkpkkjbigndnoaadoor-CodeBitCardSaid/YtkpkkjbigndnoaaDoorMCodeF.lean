/- Encode and Decode, there and back (chapter 5). -/
import Derived.Test.YtkpkkjbigndnoaaDoorMCodeE
import Derived.Test.YtkpkkjbigndnoaaDoorMMaskW
namespace Go.Proofs.YtkpkkjbigndnoaaDoor.M
open Go.RowKit Go.Proofs.YtkpkkjbigndnoaaDoor.P Go.Proofs.YtkpkkjbigndnoaaDoorW.PrintWords Go.Proofs.YtkpkkjbigndnoaaDoorW.PrintLast Go.Proofs.YtkpkkjbigndnoaaDoorW.PrintMore
set_option linter.unusedVariables false
set_option linter.unusedSimpArgs false
theorem isB_mask (c : CI) (mk : Bool) (h : isB c mk = true) (h3 : shapeN c.o = 3) : mk = true := by
  simp only [isB, okB, h3, if_true] at h
  simp only [Bool.and_eq_true] at h
  exact h.2
/-- Is an instruction right? And what its mask tells. -/
theorem is_all (c : CI) (m0 : 0 ≤ c.ms) (m1 : c.ms < 18446744073709551616) : ∃ (mk : Bool) (t : T3), CI.is 1000 c = some (isB c mk) ∧
    (mk = true → 0 ≤ t.t0 ∧ t.t0 < 2 ∧ 0 ≤ t.t1 ∧ t.t1 < 64 ∧ 0 ≤ t.t2 ∧ t.t2 < 64 ∧ mask_Encode.f 1000 c.ms = some (t.t0, t.t1, t.t2, 0) ∧ mask_Decode.f 1000 t.t0 t.t1 t.t2 = some (c.ms, 0)) := by
  obtain ⟨v, hv⟩ := Int.eq_ofNat_of_zero_le m0
  have e64 : (2 : Nat) ^ 64 = 18446744073709551616 := by decide
  rcases MM.mask_there 998 v (by decide) (by omega) with ⟨a, b, d, h1, h2, h3, h4, h5, h6, h7, h8, h9⟩ | h1
  · refine ⟨true, ⟨a, b, d⟩, ?_, fun _ => ⟨h3, h4, h5, h6, h7, h8, ?_, ?_⟩⟩
    · unfold CI.is isB
      exact is_at 998 _ _ _ _ _ _ _ _ _ _ _ (by rw [hv]; exact h1)
    · rw [hv]; exact mask_Encode.mono _ _ _ (mask_Encode.mono _ _ _ h2)
    · rw [hv]; exact mask_Decode.mono _ _ _ _ _ (mask_Decode.mono _ _ _ _ _ h9)
  · refine ⟨false, ⟨0, 0, 0⟩, ?_, fun h => by cases h⟩
    unfold CI.is isB
    exact is_at 998 _ _ _ _ _ _ _ _ _ _ _ (by rw [hv]; exact h1)
end Go.Proofs.YtkpkkjbigndnoaaDoor.M
