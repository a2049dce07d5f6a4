/- A mask's three numbers, back and there (chapter 2): no document in sight. -/
import Derived.Test.YtkpkkjbigndnoaaDoorMMaskW
namespace Go.Proofs.YtkpkkjbigndnoaaDoor.MM
open Go.RowKit Go.Proofs.YtkpkkjbigndnoaaDoor.P Go.Proofs.YtkpkkjbigndnoaaDoorW.PrintWords Go.Proofs.YtkpkkjbigndnoaaDoorW.PrintLast Go.Proofs.YtkpkkjbigndnoaaDoorW.PrintMore
set_option linter.unusedVariables false
set_option linter.unusedSimpArgs false
theorem rep_lt (v s : Nat) (hs : Sz s) (h : v < 2 ^ s) : rep v s < 2 ^ 64 := by
  have h64 : ∀ v, v < 2 ^ 64 → rep v 64 < 2 ^ 64 := fun v h => by rw [rep64]; exact h
  have h32 : ∀ v, v < 2 ^ 32 → rep v 32 < 2 ^ 64 := fun v h => by rw [rep32]; exact h64 _ (dbl_lt v 32 h)
  have h16 : ∀ v, v < 2 ^ 16 → rep v 16 < 2 ^ 64 := fun v h => by rw [rep16]; exact h32 _ (dbl_lt v 16 h)
  have h8 : ∀ v, v < 2 ^ 8 → rep v 8 < 2 ^ 64 := fun v h => by rw [rep8]; exact h16 _ (dbl_lt v 8 h)
  have h4 : ∀ v, v < 2 ^ 4 → rep v 4 < 2 ^ 64 := fun v h => by rw [rep4]; exact h8 _ (dbl_lt v 4 h)
  have h2 : ∀ v, v < 2 ^ 2 → rep v 2 < 2 ^ 64 := fun v h => by rw [rep2]; exact h4 _ (dbl_lt v 2 h)
  rcases hs with rfl | rfl | rfl | rfl | rfl | rfl
  · exact h2 v h
  · exact h4 v h
  · exact h8 v h
  · exact h16 v h
  · exact h32 v h
  · exact h64 v h

/-- Three numbers are a mask's, which tells them, or none's. -/
theorem mask_here (k : Nat) (a b c : Nat) (hk : 700 ≤ k) (ha : a ≤ 1) (hb : b ≤ 63) (hc : c ≤ 63) :
    (∃ v : Nat, v < 2 ^ 64 ∧ mask_Decode.f k (a : Int) (b : Int) (c : Int) = some ((v : Int), 0) ∧ mask_Encode.f k (v : Int) = some ((a : Int), (b : Int), (c : Int), 0)) ∨ mask_Decode.f k (a : Int) (b : Int) (c : Int) = some (0, 3) := by
  have hd := dec_spec k a b c (by omega) ha hb hc
  unfold decV at hd
  by_cases hx : c - fr (planZ a c) + 1 < planZ a c ∧ b < planZ a c
  · left
    rw [if_pos hx] at hd
    have hz := planZ_sz a c
    have hf := plan_fr a c ha hc
    have he := told_spec k _ _ _ (by omega) hz (Nat.succ_pos _) hx.1 hx.2
    refine ⟨_, ?_, hd, ?_⟩
    · unfold maskN
      exact rep_lt _ _ hz (rot_mask_lt _ _ _ hx.1 hx.2).2
    · rw [he, plan_one a c ha]
      congr 4
      omega
  · rw [if_neg hx] at hd
    exact Or.inr hd
end Go.Proofs.YtkpkkjbigndnoaaDoor.MM
