/- All bits of a mask turned round are a mask, of all other ones; a mask that is rotated is a mask of as many: the Go law answers true. -/
import Derived.Test.YtbklmlbmbnnjkaaDoorPx8
import Derived.Test.YtbklmlbmbnnjkaaDoorMMaskH
namespace Go.Proofs.YtbklmlbmbnnjkaaDoor.Pure
open Go.RowKit Go.Proofs.YtbklmlbmbnnjkaaDoor.P Go.Proofs.YtbklmlbmbnnjkaaDoorW.PrintWords Go.Proofs.YtbklmlbmbnnjkaaDoorW.PrintLast Go.Proofs.YtbklmlbmbnnjkaaDoor.M

theorem bool_same {a b : Bool} {p q : Prop} (ha : a = true ↔ p) (hb : b = true ↔ q) (h : p ↔ q) : a = b := by
  rw [Bool.eq_iff_iff, ha, hb]; exact h
theorem MaskOther : cleatlaw02_MaskOther.Pure := by
  intro a0 a1 w0 w1
  have b3 := bounds_u64 w0
  obtain ⟨v, rfl⟩ := Int.eq_ofNat_of_zero_le b3.1
  have e64 : (2 : Nat) ^ 64 = 18446744073709551616 := by decide
  have hv : v < 2 ^ 64 := by omega
  refine ⟨1001, ?_⟩
  have ho : IntKind.u64.wrap (18446744073709551615 - (v : Int)) = ((other v : Nat) : Int) := by
    rw [u64_self _ (by omega) (by omega)]; unfold other; omega
  obtain ⟨b, hb, hbi⟩ := is_iff 1001 v (by decide) hv
  obtain ⟨c, hc, hci⟩ := is_iff 1001 (other v) (by decide) (other_lt v)
  obtain rfl : c = b := bool_same hci hbi (other_mask v hv)
  have hcn : cnt 64 v + cnt 64 (other v) = 64 := cnt_other 64 v hv
  unfold cleatlaw02_MaskOther.f
  rw [ho, hb, Option.bind_some, rot_spec 1001 _ _ _ (by decide) (by omega) (by omega), Option.bind_some, hc, Option.bind_some, if_neg (by simp), mask_ones_spec v hv, Option.bind_some,
    mask_ones_spec _ (other_lt v), Option.bind_some, wrap64_self _ (by omega) (by omega), if_pos (by omega), size_spec 1001 _ (by decide) (other_lt v), Option.bind_some, size_spec 1001 v (by decide) hv, Option.bind_some, other_size v hv]
  simp only [cleatlaw02_MaskOther.j0]
  rw [if_neg (by simp), masked_ok 1000 (by decide), Option.bind_some, if_pos rfl]
  by_cases hr : 0 ≤ a1 ∧ a1 < 64
  · obtain ⟨m, rfl⟩ := Int.eq_ofNat_of_zero_le hr.1
    have hm : m < 64 := by omega
    have hl := rot_lt v m 64 (by omega) hv
    have hd := is_iff 1000 (rotN v m 64) (by decide) hl
    obtain ⟨d, hd, hdi⟩ := hd
    obtain ⟨b', hb', hbi'⟩ := is_iff 1001 v (by decide) hv
    obtain rfl : d = c := bool_same hdi hbi (rot_mask v m hm hv)
    rw [show ((64 : Int)) = ((64 : Nat) : Int) from rfl, rotV_nat v m 64 (by decide) hm, if_pos hv, if_pos rfl]
    rw [hd, Option.bind_some, if_pos (by simp), mask_ones_spec _ hl, Option.bind_some, mask_ones_spec v hv, Option.bind_some, cnt_rot v m hm hv, if_pos rfl, size_spec 1000 _ (by decide) hl, Option.bind_some, size_spec 1000 v (by decide) hv, Option.bind_some, rot_size v m hm hv]
    simp
  · rw [rotV_bad _ _ _ (by intro h; exact hr h.2), if_neg (by decide)]
end Go.Proofs.YtbklmlbmbnnjkaaDoor.Pure
