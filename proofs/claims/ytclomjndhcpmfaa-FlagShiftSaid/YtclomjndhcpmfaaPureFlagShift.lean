/- Shifted there and back a number has lost some bits alone, rotated it is layer 1's, and with a sign it is halved, rounded down: the Go law answers true for all numbers. -/
import Derived.Test.YtclomjndhcpmfaaPx15
import Derived.Test.YtclomjndhcpmfaaMShift
namespace Go.Proofs.Ytclomjndhcpmfaa.PureShift
open Go.RowKit Go.Proofs.Ytclomjndhcpmfaa.P Go.Proofs.YtclomjndhcpmfaaW.PrintWords Go.Proofs.YtclomjndhcpmfaaW.PrintLast Go.Proofs.YtclomjndhcpmfaaW.PrintMore Go.Proofs.Ytclomjndhcpmfaa.M

theorem flagged_at (k : Nat) (h : 1 ≤ k) : cleatlaw03_flagged.f k = some true := at_rounds cleatlaw03_flagged.mono h (by decide +kernel)

section
variable (V B : Nat) (hV : V < 2 ^ 64) (hB : B ≤ 63)
include hB
theorem there : shN (shN V B 0) B 1 = V % 2 ^ (64 - B) := by
  show V * 2 ^ B % 2 ^ 64 / 2 ^ B = _
  rw [show (2 : Nat) ^ 64 = 2 ^ (64 - B) * 2 ^ B by rw [← Nat.pow_add, show 64 - B + B = 64 by omega], Nat.mul_mod_mul_right, Nat.mul_div_cancel _ (Nat.two_pow_pos B)]
omit hB in
include hV in
theorem back : shN (shN V B 1) B 0 = V - V % 2 ^ B := by
  show V / 2 ^ B * 2 ^ B % 2 ^ 64 = _
  have h1 := Nat.div_mul_le_self V (2 ^ B)
  have h2 := Nat.div_add_mod V (2 ^ B)
  rw [Nat.mod_eq_of_lt (by omega), Nat.mul_comm]
  omega
theorem lowA (V64 : (V : Int) < 18446744073709551616) : bits_Low.f V (wrap64 (64 - (B : Int))) = some ((V % 2 ^ (64 - B) : Nat) : Int) := by
  rw [wrap64_self (64 - (B : Int)) (by omega) (by omega), low_spec _ _ (Int.natCast_nonneg _) V64]
  unfold lowV
  rw [if_neg (by omega)]
  by_cases c : 64 ≤ 64 - (B : Int)
  · obtain rfl : B = 0 := by omega
    rw [if_pos c, Nat.mod_eq_of_lt (by rw [show 64 - 0 = 64 from rfl, pow64]; omega)]
  · rw [if_neg c, show (64 - (B : Int)).toNat = 64 - B by omega, ← cast_pow]; simp
omit hB in
theorem lowB (hB : B ≤ 63) (V64 : (V : Int) < 18446744073709551616) : bits_Low.f V (B : Int) = some ((V % 2 ^ B : Nat) : Int) := by
  rw [low_spec _ _ (Int.natCast_nonneg _) V64]
  unfold lowV
  by_cases c : (B : Int) ≤ 0
  · obtain rfl : B = 0 := by omega
    rw [if_pos c, Nat.pow_zero, Nat.mod_one]; rfl
  · rw [if_neg c, if_neg (by omega), Int.toNat_natCast, ← cast_pow]; simp
include hV
theorem halved (hn : 2 ^ 63 ≤ V) : 2 ^ 63 ≤ shN V B 2 ∧ shN V B 2 < 2 ^ 64 ∧ 2 ^ 64 - 1 - shN V B 2 = (2 ^ 64 - 1 - V) / 2 ^ B := by
  have hs := sar_arith B hB
  have e : shN V B 2 = 2 ^ (64 - B) * (2 ^ B - 1) + V / 2 ^ B := by simp [shN]; omega
  have hh := rot_hi V B 64 (by omega) hV
  have h64 : (2 : Nat) ^ 64 = 2 ^ B * 2 ^ (64 - B) := by rw [← Nat.pow_add, show B + (64 - B) = 64 by omega]
  have h63 : (2 : Nat) ^ 63 = 2 ^ B * 2 ^ (63 - B) := by rw [← Nat.pow_add, show B + (63 - B) = 63 by omega]
  have h1 : (2 : Nat) ^ (64 - B) = 2 * 2 ^ (63 - B) := by rw [show 64 - B = 63 - B + 1 by omega, Nat.pow_succ, Nat.mul_comm]
  have hq : 2 ^ (63 - B) ≤ V / 2 ^ B := by
    rw [Nat.le_div_iff_mul_le (Nat.two_pow_pos B), Nat.mul_comm, ← h63]; exact hn
  have hp : (2 : Nat) ^ (63 - B) ≤ 2 ^ 63 := Nat.pow_le_pow_right (by decide) (by omega)
  have hd : (2 ^ 64 - 1 - V) / 2 ^ B = 2 ^ (64 - B) - 1 - V / 2 ^ B := by
    have h2 := Nat.div_add_mod V (2 ^ B)
    have h3 := Nat.mod_lt V (Nat.two_pow_pos B)
    apply Nat.div_eq_of_lt_le
    · rw [Nat.sub_mul, Nat.sub_mul, Nat.one_mul, Nat.mul_comm _ (2 ^ B), ← h64, Nat.mul_comm (V / 2 ^ B)]
      omega
    · rw [Nat.succ_mul, Nat.sub_mul, Nat.sub_mul, Nat.one_mul, Nat.mul_comm _ (2 ^ B), ← h64, Nat.mul_comm (V / 2 ^ B)]
      have h4 : 2 ^ B * (V / 2 ^ B) + 2 ^ B ≤ 2 ^ 64 := by
        rw [h64, ← Nat.mul_succ]; exact Nat.mul_le_mul_left _ hh
      omega
  rw [e, hs, hd]
  have e1 : (2 : Nat) ^ 64 = 2 * 2 ^ 63 := by decide
  omega
end

theorem FlagShift : cleatlaw03_FlagShift.Pure := by
  intro v b hv _
  obtain ⟨v0, v1⟩ := bounds_u64 hv
  refine ⟨300, ?_⟩
  unfold cleatlaw03_FlagShift.f
  rw [shift_spec _ v 0 b (by omega) v0 v1, Option.bind_some, shift_spec _ v 1 b (by omega) v0 v1, Option.bind_some, shift_spec _ v 2 b (by omega) v0 v1, Option.bind_some, shift_spec _ v 3 b (by omega) v0 v1, Option.bind_some]
  by_cases c : 0 ≤ b ∧ b ≤ 63
  · obtain ⟨V, rfl⟩ := Int.eq_ofNat_of_zero_le v0
    obtain ⟨B, rfl⟩ := Int.eq_ofNat_of_zero_le c.1
    have hB : B ≤ 63 := by omega
    have hV : V < 2 ^ 64 := by rw [pow64]; omega
    have g := fun K hK => shV_nat V B K hB hK
    have g0 : shV V 0 B = _ := g 0 (by decide)
    have g1 : shV V 1 B = _ := g 1 (by decide)
    have g2 : shV V 2 B = _ := g 2 (by decide)
    have g3 : shV V 3 B = _ := g 3 (by decide)
    rw [if_neg (by omega), decide_eq_false (by omega), g0, g1, g2, g3]
    dsimp only
    have l0 := nat_64 64 _ (Nat.le_refl _) (shN_lt V B 0 hV hB)
    have l1 := nat_64 64 _ (Nat.le_refl _) (shN_lt V B 1 hV hB)
    have s1 : shV ((shN V B 0 : Nat) : Int) 1 B = _ := shV_nat (shN V B 0) B 1 hB (by decide)
    have s0 : shV ((shN V B 1 : Nat) : Int) 0 B = _ := shV_nat (shN V B 1) B 0 hB (by decide)
    have hr : rotV V B 64 = (((rotN V B 64 : Nat) : Int), 0) := by
      have := rotV_nat V B 64 (by decide) (by omega)
      rw [if_pos hV] at this; exact this
    rw [cleatlaw03_FlagShift.j0, if_neg (by decide), shift_spec _ _ 1 B (by omega) (Int.natCast_nonneg _) l0, Option.bind_some, shift_spec _ _ 0 B (by omega) (Int.natCast_nonneg _) l1, Option.bind_some, rot_spec _ V B 64 (by omega) v0 v1, Option.bind_some, s1, s0, hr]
    dsimp only
    rw [if_pos rfl, if_pos rfl, if_pos rfl, if_pos rfl, if_pos rfl, if_pos rfl, show ((0 : Int) != 0) = false by decide, cleatlaw03_FlagShift.j1, if_neg (by decide), there V B hB, back V B hV]
    have hmod : V % 2 ^ B ≤ V := Nat.mod_le _ _
    have e3 : shN V B 3 = rotN V B 64 := rfl
    by_cases n : 2 ^ 63 ≤ V
    · obtain ⟨h1, h2, h3⟩ := halved V B hV hB n
      rw [pow63] at h1 n
      have h2' := h2
      rw [pow64] at h2'
      have hp := pow_pos B
      have hple := pow_le B 63 hB
      rw [if_neg (by rw [ge_iff_le, Int.not_le, wrap64_neg _ (by omega) (by omega)]; omega), cleatlaw03_FlagShift.j2, if_pos (by rw [wrap64_neg _ (by omega) (by omega)]; omega), if_pos (by rw [wrap64_neg _ (by omega) (by omega)]; omega), if_pos (by omega),
        shl_nat _ _ _ (by simp [IntKind.bits]; omega), Int.one_mul, u64_self (2 ^ B) (by omega) (by omega), if_neg (by omega), flagged_at _ (by omega), Option.bind_some, if_pos rfl, lowA V B hB v1, Option.bind_some, if_pos rfl, lowB V B hB v1, Option.bind_some,
        if_pos (by rw [u64_self _ (by omega) (by omega)]; omega), e3, if_pos rfl, u64_self _ (by omega) (by omega), u64_self (18446744073709551615 - (V : Int)) (by omega) (by omega), Int.tdiv_eq_ediv_of_nonneg (by omega)]
      have hk : ((18446744073709551615 : Int) - V) / 2 ^ B = (((2 ^ 64 - 1 - V) / 2 ^ B : Nat) : Int) := by
        rw [show (18446744073709551615 : Int) - V = ((2 ^ 64 - 1 - V : Nat) : Int) by rw [pow64]; omega, ← cast_pow]; simp
      rw [hk, ← h3, u64_self _ (Int.natCast_nonneg _) (by rw [pow64]; omega)]
      congr 1
      rw [beq_iff_eq, pow64]
      omega
    · have e2 : shN V B 2 = V / 2 ^ B := by simp [shN]; intro h; omega
      have e1 : shN V B 1 = V / 2 ^ B := rfl
      have hd : V / 2 ^ B ≤ V := Nat.div_le_self _ _
      rw [pow63] at n
      have hx : 0 ≤ wrap64 ((V / 2 ^ B : Nat) : Int) := by
        generalize V / 2 ^ B = X at *
        unfold wrap64; omega
      rw [e2, e1, if_pos hx, cleatlaw03_FlagShift.j2, if_neg (by rw [wrap64_neg _ (by omega) (by omega)]; omega), flagged_at _ (by omega), Option.bind_some, if_pos rfl, lowA V B hB v1, Option.bind_some, if_pos rfl, lowB V B hB v1, Option.bind_some,
        if_pos (by rw [u64_self _ (by omega) (by omega)]; omega), e3, if_pos rfl]
      simp
  · have g := fun kind => shV_bad v kind b (fun h => c h.2.2)
    rw [g 0, g 1, g 2, g 3]
    dsimp only
    by_cases d : b < 0
    · rw [if_pos d, cleatlaw03_FlagShift.j0, if_pos rfl, flagged_at _ (by omega)]; simp [u64_self]
    · rw [if_neg d, decide_eq_true (by omega), cleatlaw03_FlagShift.j0, if_pos rfl, flagged_at _ (by omega)]; simp [u64_self]
end Go.Proofs.Ytclomjndhcpmfaa.PureShift
namespace Go.Proofs.Ytclomjndhcpmfaa.Pure
open Go.Proofs.Ytclomjndhcpmfaa.P
theorem FlagShift : cleatlaw03_FlagShift.Pure := PureShift.FlagShift
end Go.Proofs.Ytclomjndhcpmfaa.Pure
