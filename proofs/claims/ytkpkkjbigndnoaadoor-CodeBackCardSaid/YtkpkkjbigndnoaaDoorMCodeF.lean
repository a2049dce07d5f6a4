/- Encode and Decode, there and back (chapter 5). -/
import Derived.Test.YtkpkkjbigndnoaaDoorMCodeE
import Derived.Test.YtkpkkjbigndnoaaDoorMMaskW
namespace Go.Proofs.YtkpkkjbigndnoaaDoor.M
open Go.RowKit Go.Proofs.YtkpkkjbigndnoaaDoor.P Go.Proofs.YtkpkkjbigndnoaaDoorW.PrintWords Go.Proofs.YtkpkkjbigndnoaaDoorW.PrintLast Go.Proofs.YtkpkkjbigndnoaaDoorW.PrintMore
set_option linter.unusedVariables false
set_option linter.unusedSimpArgs false
theorem isB_mask (c : CI) (mk : Bool) (h : isB c mk = true) (h3 : shapeN c.o = 3) : mk = true := by
  simp only [isB, okB, h3, if_true] at h
  simp only [Bool.and_eq_true] at h
  exact h.2
/-- Is an instruction right? And what its mask tells. -/
theorem is_all (c : CI) (m0 : 0 ≤ c.ms) (m1 : c.ms < 18446744073709551616) : ∃ (mk : Bool) (t : T3), CI.is 1000 c = some (isB c mk) ∧
    (mk = true → 0 ≤ t.t0 ∧ t.t0 < 2 ∧ 0 ≤ t.t1 ∧ t.t1 < 64 ∧ 0 ≤ t.t2 ∧ t.t2 < 64 ∧ mask_Encode.f 1000 c.ms = some (t.t0, t.t1, t.t2, 0) ∧ mask_Decode.f 1000 t.t0 t.t1 t.t2 = some (c.ms, 0)) := by
  obtain ⟨v, hv⟩ := Int.eq_ofNat_of_zero_le m0
  have e64 : (2 : Nat) ^ 64 = 18446744073709551616 := by decide
  rcases MM.mask_there 998 v (by decide) (by omega) with ⟨a, b, d, h1, h2, h3, h4, h5, h6, h7, h8, h9⟩ | h1
  · refine ⟨true, ⟨a, b, d⟩, ?_, fun _ => ⟨h3, h4, h5, h6, h7, h8, ?_, ?_⟩⟩
    · unfold CI.is isB
      exact is_at 998 _ _ _ _ _ _ _ _ _ _ _ (by rw [hv]; exact h1)
    · rw [hv]; exact mask_Encode.mono _ _ _ (mask_Encode.mono _ _ _ h2)
    · rw [hv]; exact mask_Decode.mono _ _ _ _ _ (mask_Decode.mono _ _ _ _ _ h9)
  · refine ⟨false, ⟨0, 0, 0⟩, ?_, fun h => by cases h⟩
    unfold CI.is isB
    exact is_at 998 _ _ _ _ _ _ _ _ _ _ _ (by rw [hv]; exact h1)
theorem there (c : CI) (m0 : 0 ≤ c.ms) (m1 : c.ms < 18446744073709551616) :
    (CI.is 1000 c = some false ∧ code_Encode.f 1000 c.o c.d c.n c.m c.a c.im c.ms c.sh c.am c.cd = some (0, 1)) ∨
    (∃ W : Nat, W < 4294967296 ∧ CI.is 1000 c = some true ∧ code_Encode.f 1000 c.o c.d c.n c.m c.a c.im c.ms c.sh c.am c.cd = some ((W : Int), 0) ∧ code_Decode.f 1000 (W : Int) = some (tup c 0) ∧ code_Opcode.f 1000 (W : Int) = some c.o) := by
  obtain ⟨mk, t, hi, hm⟩ := is_all c m0 m1
  cases hb : isB c mk with
  | false =>
    rw [hb] at hi
    refine .inl ⟨hi, ?_⟩
    unfold code_Encode.f
    unfold CI.is at hi
    rw [hi, Option.bind_some, if_neg (by decide)]
  | true =>
    rw [hb] at hi
    have hm3 := fun e : shapeN c.o = 3 => hm (isB_mask c mk hb e)
    obtain ⟨h1, h2, h3, h4⟩ := enc_at 1000 (by decide) c mk t hi hb (fun e => by obtain ⟨a1, a2, a3, a4, a5, a6, a7, a8⟩ := hm3 e; exact ⟨a1, a2, a3, a4, a5, a6, a7⟩)
    obtain ⟨h5, h6⟩ := dec_at 1000 (by decide) c mk t (wordC c t) hi hb hm3 h2 h3 h4
    exact .inr ⟨_, h2, hi, h1, h5, h6⟩
end Go.Proofs.YtkpkkjbigndnoaaDoor.M
