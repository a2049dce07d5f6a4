/- Program and document tell the same of any numbers: the Go law answers true. -/
import Derived.Test.YtbklmlbmbnnjkaaDoorPx8
import Derived.Test.YtbklmlbmbnnjkaaDoorMMaskG
namespace Go.Proofs.YtbklmlbmbnnjkaaDoor.Pure
open Go.RowKit Go.Proofs.YtbklmlbmbnnjkaaDoor.P Go.Proofs.YtbklmlbmbnnjkaaDoorW.PrintWords Go.Proofs.YtbklmlbmbnnjkaaDoorW.PrintLast Go.Proofs.YtbklmlbmbnnjkaaDoor.M

theorem MaskDoes : cleatlaw02_MaskDoes.Pure := by
  intro a0 a1 a2 a3 w0 w1 w2 w3
  have b3 := bounds_u64 w3
  obtain ⟨v, rfl⟩ := Int.eq_ofNat_of_zero_le b3.1
  have e64 : (2 : Nat) ^ 64 = 18446744073709551616 := by decide
  have hv : v < 2 ^ 64 := by omega
  refine ⟨1000, ?_⟩
  have hD : ∃ p : Int × Int, mask_Decode.f 1000 a0 a1 a2 = some p ∧ cleatref02_Decode.f 1000 a0 a1 a2 = some p := by
    rcases dec_cases 1000 a0 a1 a2 (by decide) with ⟨a, b, c, _, _, _, _, _, _, h1, h2⟩ | ⟨h1, h2⟩
    · exact ⟨_, h1, h2⟩
    · exact ⟨_, h1, h2⟩
  have hE : ∃ a b c e : Int, mask_Encode.f 1000 (v : Int) = some (a, b, c, e) ∧ cleatref02_Encode.f 1000 (v : Int) = some (a, b, c, e) ∧ mask_Is.f 1000 (v : Int) = some (e == 0) := by
    rcases enc_cases 1000 v (by decide) hv with ⟨s, o, r, _, _, _, _, _, _, h1, h2⟩ | ⟨_, h1, h2⟩
    · exact ⟨_, _, _, _, h1, h2, is_of_enc h1⟩
    · exact ⟨_, _, _, _, h1, h2, is_of_none h1⟩
  obtain ⟨p, hp1, hp2⟩ := hD
  obtain ⟨a, b, c, e, he1, he2, he3⟩ := hE
  unfold cleatlaw02_MaskDoes.f
  rw [hp1, Option.bind_some, hp2, Option.bind_some, he1, Option.bind_some, he2, Option.bind_some, masked_ok 1000 (by decide), Option.bind_some, if_pos rfl, if_pos rfl, if_pos rfl, if_pos rfl, if_pos rfl, if_pos rfl, if_pos rfl,
    he3, Option.bind_some, ref_is_of he2, Option.bind_some, if_pos (beq_self_eq_true _), size_spec 1000 v (by decide) hv, Option.bind_some, ref_size_spec 1000 v (by decide) hv, Option.bind_some, if_pos rfl,
    mask_ones_spec v hv, Option.bind_some, ref_ones_spec 1000 v (by decide) hv, Option.bind_some, beq_self_eq_true]
end Go.Proofs.YtbklmlbmbnnjkaaDoor.Pure
