/- What three numbers tell (chapter 2): program and document. -/
import Derived.Test.YtbklmlbmbnnjkaaDoorMMaskE
namespace Go.Proofs.YtbklmlbmbnnjkaaDoor.M
open Go.RowKit Go.Proofs.YtbklmlbmbnnjkaaDoor.P Go.Proofs.YtbklmlbmbnnjkaaDoorW.PrintWords Go.Proofs.YtbklmlbmbnnjkaaDoorW.PrintLast Go.Proofs.YtbklmlbmbnnjkaaDoorW.PrintMore

/-- The size that the first and the third number tell. -/
def planZ (n s : Nat) : Nat := if n = 1 then 64 else if 60 ≤ s then 2 else if 56 ≤ s then 4 else if 48 ≤ s then 8 else if 32 ≤ s then 16 else 32
def decV (n r s : Nat) : Int × Int := if s - fr (planZ n s) + 1 < planZ n s ∧ r < planZ n s then ((maskN (planZ n s) (s - fr (planZ n s) + 1) r : Nat), 0) else (0, 3)
theorem planZ_sz (n s : Nat) : Sz (planZ n s) := by unfold planZ Sz; (repeat' split) <;> simp
def dataOk (n s : Nat) : Bool := decide (mask_Decode.size (n : Int) (s : Int) = some ((planZ n s : Nat) : Int) ∧ mask_front.f ((planZ n s : Nat) : Int) = some ((fr (planZ n s) : Nat) : Int) ∧
  fr (planZ n s) ≤ s)
theorem data_fin : ∀ n : Fin 2, ∀ s : Fin 64, dataOk n.val s.val = true := by decide +kernel
theorem rot_mask_lt (o r z : Nat) (ho : o < z) (hr : r < z) : 2 ^ o - 1 < 2 ^ z ∧ rotN (2 ^ o - 1) r z < 2 ^ z := by
  have hlt : 2 ^ o - 1 < 2 ^ z := by
    have := Nat.pow_le_pow_right (show 0 < 2 by decide) (Nat.le_of_lt ho)
    have := Nat.two_pow_pos o
    omega
  exact ⟨hlt, rot_lt _ r z (by omega) hlt⟩
theorem clampN (a b c : Nat) : 0 ≤ mn (mn (a : Int) b) c := by unfold mn; (repeat' split) <;> omega
theorem dec_spec (k n r s : Nat) (hk : 300 ≤ k) (hn : n ≤ 1) (hr : r ≤ 63) (hs : s ≤ 63) : mask_Decode.f k (n : Int) (r : Int) (s : Int) = some (decV n r s) := by
  obtain ⟨d1, d2, d3⟩ := of_decide_eq_true (data_fin ⟨n, by omega⟩ ⟨s, by omega⟩)
  have hz := planZ_sz n s
  have hzl := hz.le
  have d4 : fr (planZ n s) ≤ s := d3
  clear d3
  unfold mask_Decode.f decV
  rw [if_pos ⟨clampN n r s, by omega, by unfold mx; split <;> omega⟩, d1, Option.bind_some, d2, Option.bind_some]
  generalize planZ n s = z at *
  have hfr : fr z ≤ 64 := by unfold fr; split <;> omega
  rw [show wrap64 (wrap64 ((s : Int) - ((fr z : Nat) : Int)) + 1) = ((s - fr z + 1 : Nat) : Int) by rw [wrap64_self ((s : Int) - _) (by omega) (by omega), wrap64_self _ (by omega) (by omega)]; omega]
  by_cases hc : s - fr z + 1 < z ∧ r < z
  · have hl := rot_mask_lt _ r z hc.1 hc.2
    rw [if_pos ⟨by omega, by omega, by omega⟩, if_pos hc, full_low _ (by omega), Option.bind_some, rot_spec k _ _ _ (by omega) (by omega) (nat_64 z _ hzl hl.1), rotV_nat _ r z hz.sizeB hc.2, if_pos (by have := cast_pow z; omega), Option.bind_some,
      again_spec k _ z (by omega) hz hl.2, Option.bind_some]
    rfl
  · rw [if_neg (by omega), if_neg hc]
theorem dec_bad (k : Nat) (n r s : Int) (h : ¬ (0 ≤ n ∧ n ≤ 1 ∧ 0 ≤ r ∧ r ≤ 63 ∧ 0 ≤ s ∧ s ≤ 63)) : mask_Decode.f k n r s = some (0, 1) := by
  unfold mask_Decode.f
  rw [if_neg]
  rintro ⟨h1, h2, h3⟩
  unfold mn at h1
  unfold mx at h3
  apply h
  refine ⟨?_, h2, ?_, ?_, ?_, ?_⟩ <;> (repeat' split at h1) <;> (repeat' split at h3) <;> omega

theorem ref_dec_step (k n r s z : Nat) (hk : 400 ≤ k) (hn : n ≤ 1) (hs : s ≤ 63) (hz : Sz z) :
    cleatref02_Decode.l0 (k + 3) (n : Int) (r : Int) (s : Int) (z : Int) = if (n = 1 ↔ z = 64) ∧ fr z ≤ s ∧ s - fr z + 1 < z ∧ r < z then some (((maskN z (s - fr z + 1) r : Nat) : Int), (0 : Int)) else cleatref02_Decode.l0 k (n : Int) (r : Int) (s : Int) ((2 * z : Nat) : Int) := by
  have hzl := hz.le
  have hzp := hz.pos
  have hfr : fr z ≤ 64 := by unfold fr; split <;> omega
  have hj2 : cleatref02_Decode.l0 (k + 3) (n : Int) (r : Int) (s : Int) (z : Int) = cleatref02_Decode.j2 (k + 2) (n : Int) (r : Int) (s : Int) (z : Int) ((s : Int) - ((fr z : Nat) : Int) + 1) := by
    simp only [cleatref02_Decode.l0]
    rw [if_pos (by omega)]
    unfold fr
    by_cases h64 : z = 64
    · rw [if_neg (by omega), if_pos h64, wrap64_self _ (by omega) (by omega)]
      congr 1
    · have : z ≤ 32 := by unfold Sz at hz; omega
      rw [if_pos (by omega), if_neg h64, wrap64_self (2 * (z : Int)) (by omega) (by omega), wrap64_self (64 - _) (by omega) (by omega), wrap64_self ((s : Int) - _) (by omega) (by omega), wrap64_self _ (by omega) (by omega)]
      congr 1
      omega
  have no : ∀ b : Bool, b = false → cleatref02_Decode.j3 (k + 1) (n : Int) (r : Int) (s : Int) (z : Int) ((s : Int) - ((fr z : Nat) : Int) + 1) b = cleatref02_Decode.l0 k (n : Int) (r : Int) (s : Int) ((2 * z : Nat) : Int) := by
    intro b hb
    simp only [cleatref02_Decode.j3]
    rw [if_neg (by rw [hb]; decide), wrap64_self _ (by omega) (by omega)]
    rfl
  rw [hj2]
  simp only [cleatref02_Decode.j2]
  by_cases c1 : (n = 1 ↔ z = 64)
  · have e1 : (((n : Int) == 1) == ((z : Int) == 64)) = true := by
      rw [beq_iff_eq, Bool.eq_iff_iff, beq_iff_eq, beq_iff_eq]; omega
    rw [if_pos e1]
    by_cases c2 : fr z ≤ s
    · rw [if_pos (by omega)]
      by_cases c3 : s - fr z + 1 < z
      · rw [if_pos (by omega)]
        by_cases c4 : r < z
        · rw [if_pos ⟨c1, c2, c3, c4⟩, show decide ((r : Int) < (z : Int)) = true from decide_eq_true (by omega), show (s : Int) - ((fr z : Nat) : Int) + 1 = ((s - fr z + 1 : Nat) : Int) by omega]
          simp only [cleatref02_Decode.j3]
          rw [if_pos trivial, ref_row_spec k _ r z (by omega) hz c3 c4, Option.bind_some, ref_again_spec k _ z (by omega) hz (rot_mask_lt _ r z c3 c4).2, Option.bind_some]
          rfl
        · rw [if_neg (by omega)]
          exact no _ (decide_eq_false (by omega))
      · rw [if_neg (by omega), if_neg (by omega)]
        exact no _ rfl
    · rw [if_neg (by omega), if_neg (by omega)]
      exact no _ rfl
  · have e1 : ¬ (((n : Int) == 1) == ((z : Int) == 64)) = true := by
      rw [beq_iff_eq, Bool.eq_iff_iff, beq_iff_eq, beq_iff_eq]; omega
    rw [if_neg e1, if_neg (fun h => c1 h.1)]
    exact no _ rfl
theorem ref_dec_loop (k n r s : Nat) (hk : 500 ≤ k) (hn : n ≤ 1) (hs : s ≤ 63) : cleatref02_Decode.l0 k (n : Int) (r : Int) (s : Int) 2 = some (decV n r s) := by
  obtain ⟨k, rfl⟩ : ∃ m, k = m + 1 + 3 + 3 + 3 + 3 + 3 + 3 := ⟨k - 19, by omega⟩
  have hk2 : 400 ≤ k := by omega
  have s1 := ref_dec_step (k + 1 + 3 + 3 + 3 + 3 + 3) n r s 2 (by omega) hn hs (by simp [Sz])
  have s2 := ref_dec_step (k + 1 + 3 + 3 + 3 + 3) n r s 4 (by omega) hn hs (by simp [Sz])
  have s3 := ref_dec_step (k + 1 + 3 + 3 + 3) n r s 8 (by omega) hn hs (by simp [Sz])
  have s4 := ref_dec_step (k + 1 + 3 + 3) n r s 16 (by omega) hn hs (by simp [Sz])
  have s5 := ref_dec_step (k + 1 + 3) n r s 32 (by omega) hn hs (by simp [Sz])
  have s6 := ref_dec_step (k + 1) n r s 64 (by omega) hn hs (by simp [Sz])
  simp only [show 2 * 2 = 4 from rfl, show 2 * 4 = 8 from rfl, show 2 * 8 = 16 from rfl, show 2 * 16 = 32 from rfl, show 2 * 32 = 64 from rfl, show 2 * 64 = 128 from rfl] at s1 s2 s3 s4 s5 s6
  refine s1.trans ?_
  rw [s2, s3, s4, s5, s6]
  have hend : cleatref02_Decode.l0 (k + 1) (n : Int) (r : Int) (s : Int) ((128 : Nat) : Int) = some (0, 3) := by
    simp only [cleatref02_Decode.l0]
    rw [if_neg (by omega)]
  rw [hend]
  have f2 : fr 2 = 60 := rfl
  have f4 : fr 4 = 56 := rfl
  have f8 : fr 8 = 48 := rfl
  have f16 : fr 16 = 32 := rfl
  have f32 : fr 32 = 0 := rfl
  have f64 : fr 64 = 0 := rfl
  simp only [f2, f4, f8, f16, f32, f64]
  unfold decV planZ
  by_cases hn1 : n = 1
  · simp only [if_pos hn1, f64]
    rw [if_neg (by omega), if_neg (by omega), if_neg (by omega), if_neg (by omega), if_neg (by omega)]
    by_cases hc : s - 0 + 1 < 64 ∧ r < 64
    · rw [if_pos ⟨⟨fun _ => trivial, fun _ => hn1⟩, Nat.zero_le _, hc⟩, if_pos hc]
    · rw [if_neg (fun h => hc h.2.2), if_neg hc]
  · simp only [if_neg hn1]
    by_cases h1 : 60 ≤ s
    · simp only [if_pos h1, f2]
      by_cases hc : s - 60 + 1 < 2 ∧ r < 2
      · rw [if_pos (by omega), if_pos hc]
      · rw [if_neg (by omega), if_neg (by omega), if_neg (by omega), if_neg (by omega), if_neg (by omega), if_neg (fun h => hn1 (h.1.mpr trivial)), if_neg hc]
    · simp only [if_neg h1]
      by_cases h2 : 56 ≤ s
      · simp only [if_pos h2, f4]
        by_cases hc : s - 56 + 1 < 4 ∧ r < 4
        · rw [if_neg (by omega), if_pos (by omega), if_pos hc]
        · rw [if_neg (by omega), if_neg (by omega), if_neg (by omega), if_neg (by omega), if_neg (by omega), if_neg (fun h => hn1 (h.1.mpr trivial)), if_neg hc]
      · simp only [if_neg h2]
        by_cases h3 : 48 ≤ s
        · simp only [if_pos h3, f8]
          by_cases hc : s - 48 + 1 < 8 ∧ r < 8
          · rw [if_neg (by omega), if_neg (by omega), if_pos (by omega), if_pos hc]
          · rw [if_neg (by omega), if_neg (by omega), if_neg (by omega), if_neg (by omega), if_neg (by omega), if_neg (fun h => hn1 (h.1.mpr trivial)), if_neg hc]
        · simp only [if_neg h3]
          by_cases h4 : 32 ≤ s
          · simp only [if_pos h4, f16]
            by_cases hc : s - 32 + 1 < 16 ∧ r < 16
            · rw [if_neg (by omega), if_neg (by omega), if_neg (by omega), if_pos (by omega), if_pos hc]
            · rw [if_neg (by omega), if_neg (by omega), if_neg (by omega), if_neg (by omega), if_neg (by omega), if_neg (fun h => hn1 (h.1.mpr trivial)), if_neg hc]
          · simp only [if_neg h4, f32]
            by_cases hc : s - 0 + 1 < 32 ∧ r < 32
            · rw [if_neg (by omega), if_neg (by omega), if_neg (by omega), if_neg (by omega), if_pos (by omega), if_pos hc]
            · rw [if_neg (by omega), if_neg (by omega), if_neg (by omega), if_neg (by omega), if_neg (by omega), if_neg (fun h => hn1 (h.1.mpr trivial)), if_neg hc]
end Go.Proofs.YtbklmlbmbnnjkaaDoor.M
