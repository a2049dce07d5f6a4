/- A number is what its lowest bits, as many as its size, are, again and again; half the size will not do: the Go law answers true. -/
import Derived.Test.YtbklmlbmbnnjkaaDoorPx10
import Derived.Test.YtbklmlbmbnnjkaaDoorMMaskH
namespace Go.Proofs.YtbklmlbmbnnjkaaDoor.Pure
open Go.RowKit Go.Proofs.YtbklmlbmbnnjkaaDoor.P Go.Proofs.YtbklmlbmbnnjkaaDoorW.PrintWords Go.Proofs.YtbklmlbmbnnjkaaDoorW.PrintLast Go.Proofs.YtbklmlbmbnnjkaaDoor.M

theorem size_j0 (k v : Nat) (hk : 1000 ≤ k) (hv : v < 2 ^ 64) : cleatlaw02_MaskSize.j0 (k + 2) (v : Int) ((sizeV v : Nat) : Int) false = some true := by
  have hs := sizeV_sz v
  have hp := hs.pos
  have hl := hs.le
  have e64 : (2 : Nat) ^ 64 = 18446744073709551616 := by decide
  have hrot := rot_of_rep v _ hs hv (sizeV_rep v hv)
  simp only [cleatlaw02_MaskSize.j0]
  rw [if_neg (by simp), show Int.tmod ((sizeV v : Nat) : Int) 64 = ((sizeV v % 64 : Nat) : Int) by rw [Int.tmod_eq_emod_of_nonneg (by omega)]; simp, rot_spec (k + 1) _ _ _ (by omega) (by omega) (by omega), Option.bind_some,
    show ((64 : Int)) = ((64 : Nat) : Int) from rfl, rotV_nat v _ 64 (by decide) (Nat.mod_lt _ (by decide)), if_pos hv, hrot, if_pos rfl]
  simp only [cleatlaw02_MaskSize.j1]
  rw [if_neg (by simp)]
  by_cases h2 : sizeV v = 2
  · rw [if_pos (by omega), masked_ok k (by omega)]
    rfl
  · have hh := half_sz _ hs h2
    rw [if_neg (by omega), show wrap64 (Int.tdiv ((sizeV v : Nat) : Int) 2) = ((sizeV v / 2 : Nat) : Int) by rw [Int.tdiv_eq_ediv_of_nonneg (by omega), wrap64_self _ (by omega) (by omega)]; omega, rot_spec k _ _ _ (by omega) (by omega) (by omega), Option.bind_some,
      show ((64 : Int)) = ((64 : Nat) : Int) from rfl, rotV_nat v _ 64 (by decide) hh.2.1, if_pos hv, masked_ok k (by omega), Option.bind_some, if_pos rfl, if_pos rfl]
    have hne : rotN v (sizeV v / 2) 64 ≠ v := fun he => by
      have := rep_of_rot v _ hh.1 hh.2.1 hv he
      rw [sizeV_least v _ hh.1 hh.2.2] at this
      exact absurd this (by decide)
    simp only [Option.some.injEq, bne_iff_ne, ne_eq]
    omega
theorem MaskSize : cleatlaw02_MaskSize.Pure := by
  intro a0 w0
  have b3 := bounds_u64 w0
  obtain ⟨v, rfl⟩ := Int.eq_ofNat_of_zero_le b3.1
  have e64 : (2 : Nat) ^ 64 = 18446744073709551616 := by decide
  have hv : v < 2 ^ 64 := by omega
  refine ⟨1002, ?_⟩
  have hj := size_j0 1000 v (by decide) hv
  unfold cleatlaw02_MaskSize.f
  rw [size_spec 1002 v (by decide) hv, Option.bind_some]
  have hs := sizeV_sz v
  generalize sizeV v = s at *
  rcases hs with rfl | rfl | rfl | rfl | rfl | rfl <;> exact hj
end Go.Proofs.YtbklmlbmbnnjkaaDoor.Pure
