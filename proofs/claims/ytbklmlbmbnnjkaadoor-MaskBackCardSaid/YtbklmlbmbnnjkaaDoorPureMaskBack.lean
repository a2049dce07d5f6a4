/- What three numbers tell is told by just these, and what is told of a number tells it: the Go law answers true. -/
import Derived.Test.YtbklmlbmbnnjkaaDoorPx8
import Derived.Test.YtbklmlbmbnnjkaaDoorMMaskH
namespace Go.Proofs.YtbklmlbmbnnjkaaDoor.Pure
open Go.RowKit Go.Proofs.YtbklmlbmbnnjkaaDoor.P Go.Proofs.YtbklmlbmbnnjkaaDoorW.PrintWords Go.Proofs.YtbklmlbmbnnjkaaDoorW.PrintLast Go.Proofs.YtbklmlbmbnnjkaaDoor.M

theorem plan_of (s o : Nat) (hs : Sz s) (h1 : 0 < o) (h2 : o < s) : planZ (if s = 64 then 1 else 0) (o - 1 + fr s) = s ∧ o - 1 + fr s ≤ 63 := by
  unfold planZ fr
  rcases hs with rfl | rfl | rfl | rfl | rfl | rfl <;> simp <;> (repeat' split) <;> omega
theorem plan_one (n s : Nat) (hn : n ≤ 1) : nOf (planZ n s) = (n : Int) := by
  unfold nOf planZ
  (repeat' split) <;> omega
theorem plan_fr (n s : Nat) (hn : n ≤ 1) (hs : s ≤ 63) : fr (planZ n s) ≤ s := (of_decide_eq_true (data_fin ⟨n, by omega⟩ ⟨s, by omega⟩)).2.2
theorem back_j (k v : Nat) (hk : 1000 ≤ k) (hv : v < 2 ^ 64) : cleatlaw02_MaskBack.j0 (k + 1) (v : Int) = some true := by
  simp only [cleatlaw02_MaskBack.j0]
  rw [masked_ok k (by omega)]
  rcases enc_cases k v (by omega) hv with ⟨s, o, r, hs, h1, h2, h3, h4, _, he, _⟩ | ⟨_, he, _⟩
  · have hp := plan_of s o hs h1 h2
    have hn : nOf s = ((if s = 64 then 1 else 0 : Nat) : Int) := by unfold nOf; split <;> rfl
    have hsl := hs.le
    rw [he, Option.bind_some, if_pos rfl]
    simp only [Option.bind_some, if_true]
    rw [hn, dec_spec k _ r _ (by omega) (by split <;> omega) (by omega) hp.2]
    unfold decV
    rw [hp.1, show o - 1 + fr s - fr s + 1 = o by omega, if_pos ⟨h2, h3⟩, Option.bind_some, if_pos rfl, if_pos (by rw [h4]), is_of_enc he]
    rfl
  · rw [he, Option.bind_some, if_neg (by decide)]
    simp only [Option.bind_some, if_true]
    rw [is_of_none he]
    rfl
theorem MaskBack : cleatlaw02_MaskBack.Pure := by
  intro a0 a1 a2 a3 w0 w1 w2 w3
  have b3 := bounds_u64 w3
  obtain ⟨v, rfl⟩ := Int.eq_ofNat_of_zero_le b3.1
  have e64 : (2 : Nat) ^ 64 = 18446744073709551616 := by decide
  have hv : v < 2 ^ 64 := by omega
  refine ⟨1001, ?_⟩
  have hj := back_j 1000 v (by decide) hv
  unfold cleatlaw02_MaskBack.f
  rcases dec_cases 1001 a0 a1 a2 (by decide) with ⟨a, b, c, rfl, rfl, rfl, k1, k2, k3, hd, _⟩ | ⟨hd, _⟩
  · rw [hd, Option.bind_some]
    unfold decV
    by_cases hc : c - fr (planZ a c) + 1 < planZ a c ∧ b < planZ a c
    · have hz := planZ_sz a c
      have hf := plan_fr a c k1 k3
      have he := told_spec 1001 _ _ _ (by decide) hz (Nat.succ_pos _) hc.1 hc.2
      rw [if_pos hc, if_pos rfl, he, Option.bind_some, if_pos rfl, plan_one a c k1, if_pos rfl, if_pos rfl, if_pos (by show ((c - fr (planZ a c) + 1 - 1 + fr (planZ a c) : Nat) : Int) = _; omega), is_of_enc he, Option.bind_some, if_pos rfl]
      exact hj
    · rw [if_neg hc, if_neg (by decide)]
      exact hj
  · rw [hd, Option.bind_some, if_neg (by decide)]
    exact hj
end Go.Proofs.YtbklmlbmbnnjkaaDoor.Pure
