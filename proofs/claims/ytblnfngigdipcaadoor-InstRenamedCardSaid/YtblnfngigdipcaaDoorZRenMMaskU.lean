/- Written for this claim by a program of this session: what the claim uses of lemmas and proved contracts of Go functions. -/
import Derived.Test.YtblnfngigdipcaaDoorZRenMMaskT
namespace Go.Proofs.YtblnfngigdipcaaDoor.M
open Go.RowKit Go.Proofs.YtblnfngigdipcaaDoor.P Go.Proofs.YtblnfngigdipcaaDoorW.PrintWords Go.Proofs.YtblnfngigdipcaaDoorW.PrintLast Go.Proofs.YtblnfngigdipcaaDoorW.PrintMore
set_option linter.unusedVariables false
set_option linter.unusedSimpArgs false
theorem j1_some (k x s o : Nat) (a : Int) (hk : 200 ≤ k) (hs : Sz s) (hx : x < 2 ^ s) (hos : o ≤ s) : ∃ r, mask_tell.j1 (k + 1) (x : Int) (s : Int) (o : Int) a = some r := by
  have hsl := hs.le
  have hsp := hs.pos
  simp only [mask_tell.j1]
  rw [rot_spec k _ _ _ hk (by omega) (nat_64 s x hsl hx), Option.bind_some, full_low o (by omega), Option.bind_some]
  split
  · rw [if_neg (by omega)]
    have hf : ∃ f, mask_front.f (s : Int) = some f := by
      unfold mask_front.f
      split <;> exact ⟨_, rfl⟩
    obtain ⟨f, hf⟩ := hf
    rw [hf, Option.bind_some]
    split <;> exact ⟨_, rfl⟩
  · exact ⟨_, rfl⟩
theorem tell_some (k v : Nat) (hk : 300 ≤ k) (hv : v < 2 ^ 64) : ∃ r, mask_tell.f k (v : Int) = some r := by
  have hs := sizeV_sz v
  have hsl := hs.le
  have hsp := hs.pos
  have hx : v % 2 ^ sizeV v < 2 ^ sizeV v := Nat.mod_lt _ (Nat.two_pow_pos _)
  have hx64 : v % 2 ^ sizeV v < 2 ^ 64 := Nat.lt_of_le_of_lt (Nat.mod_le _ _) hv
  have hle := cnt_le (sizeV v) (v % 2 ^ sizeV v)
  rw [← cnt_low _ _ hsl hx] at hle
  have e64 : (2 : Nat) ^ 64 = 18446744073709551616 := by decide
  unfold mask_tell.f
  rw [size_spec k v (by omega) hv, Option.bind_some, low_sz v _ hs hv, Option.bind_some, mask_ones_spec _ hx64, Option.bind_some]
  generalize cnt 64 (v % 2 ^ sizeV v) = o at *
  generalize v % 2 ^ sizeV v = x at *
  generalize sizeV v = s at *
  obtain ⟨k, rfl⟩ : ∃ m, k = m + 3 := ⟨k - 3, by omega⟩
  have done_ : ∀ b : Bool, (b = true) → ∃ r, mask_tell.j0 (k + 3) (x : Int) (s : Int) (o : Int) b = some r := by
    intro b hb
    simp only [mask_tell.j0]
    rw [if_pos hb]
    exact ⟨_, rfl⟩
  by_cases ho : o = 0
  · rw [if_pos (by omega)]
    exact done_ true rfl
  · rw [if_neg (by omega)]
    by_cases hos : o = s
    · exact done_ _ (by subst hos; exact beq_self_eq_true _)
    · have hj : ∀ a : Int, ∃ r, mask_tell.j1 (k + 2) (x : Int) (s : Int) (o : Int) a = some r := fun a => j1_some (k + 1) x s o a (by omega) hs hx (by omega)
      simp only [mask_tell.j0]
      rw [if_neg (by rw [beq_iff_eq]; omega)]
      have htz : bits_TrailingZeros64.f (x : Int) = some ((Lib.ctz 64 x : Nat) : Int) := by
        unfold bits_TrailingZeros64.f
        rw [if_pos ⟨by omega, by omega⟩, Int.toNat_natCast]
      rw [htz, Option.bind_some]
      split
      · rw [if_pos (by rw [wrap64_self _ (by omega) (by omega)]; omega)]
        obtain ⟨l, hl⟩ := lz_some (k + 1) (Go.bits .xor .u64 18446744073709551615 (shl .u64 (x : Int) (wrap64 (64 - (s : Int)))))
        rw [hl, Option.bind_some, if_neg (by omega)]
        exact hj _
      · exact hj _
theorem is_some_ (v : Int) (v0 : 0 ≤ v) (v1 : v < 18446744073709551616) : ∃ b, mask_Is.f 300 v = some b := by
  obtain ⟨v, rfl⟩ := Int.eq_ofNat_of_zero_le v0
  have e64 : (2 : Nat) ^ 64 = 18446744073709551616 := by decide
  obtain ⟨r, hr⟩ := tell_some 300 v (by omega) (by omega)
  unfold mask_Is.f
  rw [hr, Option.bind_some]
  split <;> exact ⟨_, rfl⟩
theorem is_ends (v : Int) (v0 : 0 ≤ v) (v1 : v < 18446744073709551616) : ∃ b, ∀ k, 300 ≤ k → mask_Is.f k v = some b := by
  obtain ⟨b, hb⟩ := is_some_ v v0 v1
  exact ⟨b, fun k hk => at_rounds (g := fun k => mask_Is.f k v) (mask_Is.mono _) hk hb⟩
end Go.Proofs.YtblnfngigdipcaaDoor.M
