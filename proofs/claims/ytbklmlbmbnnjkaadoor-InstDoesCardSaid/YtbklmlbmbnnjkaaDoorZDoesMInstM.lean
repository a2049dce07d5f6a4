/- Written for this claim by a program of this session: what the claim uses of lemmas and proved contracts of Go functions. -/
import Derived.Test.YtbklmlbmbnnjkaaDoorZDoesMInstD
import Derived.Test.YtbklmlbmbnnjkaaDoorZDoesMMaskAll
namespace Go.Proofs.YtbklmlbmbnnjkaaDoor.M
open Go.RowKit Go.Proofs.YtbklmlbmbnnjkaaDoor.R Go.Proofs.YtbklmlbmbnnjkaaDoorW.PrintWords Go.Proofs.YtbklmlbmbnnjkaaDoorW.PrintLast Go.Proofs.YtbklmlbmbnnjkaaDoorW.PrintMore
set_option linter.unusedVariables false
set_option linter.unusedSimpArgs false
theorem masks_at (k : Nat) (hk : 700 ≤ k) (v : Int) (wv : (Lit.int .u64 v).wf = true) : ∃ b : Bool, mask_Is.f k v = some b ∧ cleatref02_Is.f k v = some b := by
  have b3 := bounds_u64 wv
  obtain ⟨v, rfl⟩ := Int.eq_ofNat_of_zero_le b3.1
  have e64 : (2 : Nat) ^ 64 = 18446744073709551616 := by decide
  have hv : v < 2 ^ 64 := by omega
  rcases enc_cases k v hk hv with ⟨s, o, r, _, _, _, _, _, _, h1, h2⟩ | ⟨_, h1, h2⟩
  · exact ⟨true, is_of_enc h1, ref_is_of h2⟩
  · exact ⟨false, is_of_none h1, ref_is_of h2⟩
theorem masks_all (v : Int) (wv : (Lit.int .u64 v).wf = true) : ∃ b : Bool, ∀ k, 700 ≤ k → mask_Is.f k v = some b ∧ cleatref02_Is.f k v = some b := by
  obtain ⟨b, h1, h2⟩ := masks_at 700 (by omega) v wv
  refine ⟨b, fun k hk => ?_⟩
  exact ⟨at_rounds (g := fun k => mask_Is.f k v) (mask_Is.mono _) hk h1, at_rounds (g := fun k => cleatref02_Is.f k v) (cleatref02_Is.mono _) hk h2⟩
end Go.Proofs.YtbklmlbmbnnjkaaDoor.M
