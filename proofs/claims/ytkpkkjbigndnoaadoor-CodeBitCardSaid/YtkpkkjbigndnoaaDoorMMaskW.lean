/- A mask's three numbers, there and back (chapter 2): no document in sight. -/
import Derived.Test.YtkpkkjbigndnoaaDoorMMaskV
namespace Go.Proofs.YtkpkkjbigndnoaaDoor.MM
open Go.RowKit Go.Proofs.YtkpkkjbigndnoaaDoor.P Go.Proofs.YtkpkkjbigndnoaaDoorW.PrintWords Go.Proofs.YtkpkkjbigndnoaaDoorW.PrintLast Go.Proofs.YtkpkkjbigndnoaaDoorW.PrintMore
set_option linter.unusedVariables false
set_option linter.unusedSimpArgs false
theorem mask_own (k v : Nat) (hk : 700 ≤ k) (hv : v < 2 ^ 64) :
    (∃ s o r, Sz s ∧ 0 < o ∧ o < s ∧ r < s ∧ v = maskN s o r ∧ mask_Encode.f k (v : Int) = some (nOf s, (r : Int), ((o - 1 + fr s : Nat) : Int), 0)) ∨ mask_Encode.f k (v : Int) = some (0, 0, 0, 3) := by
  have hs := sizeV_sz v
  have hrep := sizeV_eq v hv
  have hnone := encode_none k v (by omega) hv
  generalize hs_ : sizeV v = s at *
  generalize ho_ : cnt 64 (v % 2 ^ s) = o at *
  by_cases ht : Turned (v % 2 ^ s) s o
  · obtain ⟨h0, h1, r, hr, he⟩ := ht
    have hm : maskN s o r = v := by unfold maskN; rw [he, hrep]
    have := told_spec k s o r (by omega) hs h0 h1 hr
    rw [hm] at this
    exact Or.inl ⟨s, o, r, hs, h0, h1, hr, hm.symm, this⟩
  · exact Or.inr (hnone ht)
theorem plan_of (s o : Nat) (hs : Sz s) (h1 : 0 < o) (h2 : o < s) : planZ (if s = 64 then 1 else 0) (o - 1 + fr s) = s ∧ o - 1 + fr s ≤ 63 := by
  unfold planZ fr
  rcases hs with rfl | rfl | rfl | rfl | rfl | rfl <;> simp <;> (repeat' split) <;> omega
theorem plan_one (n s : Nat) (hn : n ≤ 1) : nOf (planZ n s) = (n : Int) := by
  unfold nOf planZ
  (repeat' split) <;> omega
theorem plan_fr (n s : Nat) (hn : n ≤ 1) (hs : s ≤ 63) : fr (planZ n s) ≤ s := (of_decide_eq_true (data_fin ⟨n, by omega⟩ ⟨s, by omega⟩)).2.2
/-- A number is a mask, with its three numbers, or none. -/
theorem mask_there (k v : Nat) (hk : 700 ≤ k) (hv : v < 2 ^ 64) :
    (∃ a b c : Int, mask_Is.f k (v : Int) = some true ∧ mask_Encode.f k (v : Int) = some (a, b, c, 0) ∧ 0 ≤ a ∧ a < 2 ∧ 0 ≤ b ∧ b < 64 ∧ 0 ≤ c ∧ c < 64 ∧ mask_Decode.f k a b c = some ((v : Int), 0)) ∨ mask_Is.f k (v : Int) = some false := by
  rcases mask_own k v hk hv with ⟨s, o, r, hs, h1, h2, h3, h4, he⟩ | he
  · left
    have hp := plan_of s o hs h1 h2
    obtain ⟨n, hn0⟩ : ∃ n : Nat, n = if s = 64 then 1 else 0 := ⟨_, rfl⟩
    have hn1 : n ≤ 1 := by rw [hn0]; split <;> omega
    have hn : nOf s = (n : Int) := by rw [hn0]; unfold nOf; split <;> rfl
    have hsl := hs.le
    rw [← hn0] at hp
    have hd := dec_spec k n r (o - 1 + fr s) (by omega) hn1 (by omega) hp.2
    unfold decV at hd
    rw [hp.1, show o - 1 + fr s - fr s + 1 = o by omega] at hd
    have hand : o < s ∧ r < s := And.intro h2 h3
    rw [if_pos hand, ← h4, ← hn] at hd
    refine ⟨nOf s, r, ((o - 1 + fr s : Nat) : Int), is_of_enc he, he, ?_, ?_, by omega, by omega, by omega, by omega, hd⟩ <;> (unfold nOf; split <;> omega)
  · exact Or.inr (is_of_none he)
end Go.Proofs.YtkpkkjbigndnoaaDoor.MM
