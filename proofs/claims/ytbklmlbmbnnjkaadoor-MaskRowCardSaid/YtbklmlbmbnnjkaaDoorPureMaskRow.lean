/- Ones in a row are a mask, if they are some, and not all; two or more, and one more behind a gap, are none: the Go law answers true. -/
import Derived.Test.YtbklmlbmbnnjkaaDoorPx9
import Derived.Test.YtbklmlbmbnnjkaaDoorMMaskH
namespace Go.Proofs.YtbklmlbmbnnjkaaDoor.Pure
open Go.RowKit Go.Proofs.YtbklmlbmbnnjkaaDoor.P Go.Proofs.YtbklmlbmbnnjkaaDoorW.PrintWords Go.Proofs.YtbklmlbmbnnjkaaDoorW.PrintLast Go.Proofs.YtbklmlbmbnnjkaaDoor.M

theorem row_j3 (k o : Nat) (x2 : Int) (b : Bool) (hk : 1000 ≤ k) (hb : b = true ∨ (2 ≤ o ∧ o ≤ 60 ∧ (o : Int) < x2 ∧ x2 < 63)) : cleatlaw02_MaskRow.j3 (k + 1) (o : Int) x2 ((2 ^ o - 1 : Nat) : Int) b = some true := by
  simp only [cleatlaw02_MaskRow.j3]
  cases b with
  | true => rw [if_pos rfl, masked_ok k (by omega)]; rfl
  | false =>
    rcases hb with hb | ⟨h1, h2, h3, h4⟩
    · cases hb
    obtain ⟨m, rfl⟩ : ∃ m : Nat, x2 = m := ⟨x2.toNat, by omega⟩
    have e64 : (2 : Nat) ^ 64 = 18446744073709551616 := by decide
    have p1 : (2 : Nat) ^ m ≤ 2 ^ 62 := Nat.pow_le_pow_right (by decide) (by omega)
    have p2 : (2 : Nat) ^ o ≤ 2 ^ m := Nat.pow_le_pow_right (by decide) (by omega)
    have p3 := Nat.two_pow_pos o
    have e62 : (2 : Nat) ^ 62 = 4611686018427387904 := by decide
    have hlt : 2 ^ o - 1 + 2 ^ m < 2 ^ 64 := by omega
    have hx : IntKind.u64.wrap (((2 ^ o - 1 : Nat) : Int) + shl .u64 1 (m : Int)) = ((2 ^ o - 1 + 2 ^ m : Nat) : Int) := by
      rw [shl_nat _ _ m (by show m ≤ 64; omega), Int.one_mul, ← cast_pow, u64_self ((2 ^ m : Nat) : Int) (by omega) (by omega), u64_self _ (by omega) (by omega)]; omega
    obtain ⟨d, hd, hdi⟩ := is_iff k (2 ^ o - 1 + 2 ^ m) (by omega) hlt
    have hdf : d = false := by
      cases d with
      | false => rfl
      | true => exact absurd (hdi.mp rfl) (gap_no_mask o m h1 (by omega) (by omega))
    subst hdf
    rw [if_neg (by decide), masked_ok k (by omega), Option.bind_some, if_pos rfl, if_pos (by omega), hx, hd, Option.bind_some, if_neg (by decide), mask_ones_spec _ hlt, Option.bind_some, cnt_gap o m (by omega) (by omega), wrap64_self _ (by omega) (by omega)]
    simp
theorem row_j2 (k o : Nat) (x1 x2 : Int) (hk : 1000 ≤ k) (_ : x1 ≤ 64) : cleatlaw02_MaskRow.j2 (k + 2) (o : Int) x1 x2 ((2 ^ o - 1 : Nat) : Int) false = some true := by
  simp only [cleatlaw02_MaskRow.j2]
  rw [if_neg (by decide)]
  repeat' split
  all_goals refine row_j3 k o x2 _ hk ?_
  all_goals first | exact Or.inl rfl | skip
  by_cases h : x2 ≥ 63
  · exact Or.inl (decide_eq_true h)
  · refine Or.inr ⟨by omega, by omega, by omega, by omega⟩
theorem row_end (k o s : Nat) (x2 : Int) (hk : 1000 ≤ k) (hs : Sz s) (ho : o ≤ s) : cleatlaw02_MaskRow.l0 (k + 3) (o : Int) (s : Int) x2 ((2 ^ o - 1 : Nat) : Int) ((rep (2 ^ o - 1) s : Nat) : Int) 64 = some true := by
  have hl := hs.le
  have hp := hs.pos
  have hlt : 2 ^ o - 1 < 2 ^ s := by
    have := Nat.pow_le_pow_right (show 0 < 2 by decide) ho
    have := Nat.two_pow_pos o
    omega
  have hlt64 : 2 ^ o - 1 < 2 ^ 64 := Nat.lt_of_lt_of_le hlt (Nat.pow_le_pow_right (by decide) hl)
  obtain ⟨a, ha, hai⟩ := is_iff (k + 2) _ (by omega) (rep_lt _ s hs hlt)
  obtain ⟨b, hb, hbi⟩ := is_iff (k + 2) _ (by omega) hlt64
  have r1 := row_mask o s hs ho
  have r2 := row_mask o 64 (by simp [Sz]) (by omega)
  rw [rep64] at r2
  have hj := row_j2 k o (s : Int) x2 hk (by omega)
  simp only [cleatlaw02_MaskRow.l0]
  rw [if_neg (by decide), ha, Option.bind_some, hb, Option.bind_some]
  by_cases h0 : 0 < o
  · obtain rfl : a = decide ((o : Int) < (s : Int)) := by
      rw [Bool.eq_iff_iff, hai, r1, decide_eq_true_eq]; omega
    obtain rfl : b = decide ((o : Int) < 64) := by
      rw [Bool.eq_iff_iff, hbi, r2, decide_eq_true_eq]; omega
    rw [if_pos (by omega), if_neg (by simp), bne_self_eq_false]
    exact hj
  · obtain rfl : a = false := by
      cases a with
      | false => rfl
      | true => exact absurd (r1.mp (hai.mp rfl)).1 h0
    obtain rfl : b = false := by
      cases b with
      | false => rfl
      | true => exact absurd (r2.mp (hbi.mp rfl)).1 h0
    rw [if_neg (by omega), if_neg (by decide)]
    exact hj
theorem row_step (k o s t x : Nat) (x2 : Int) (hx : x < 2 ^ t) (ht : 2 * t ≤ 64) : cleatlaw02_MaskRow.l0 (k + 1) (o : Int) (s : Int) x2 ((2 ^ o - 1 : Nat) : Int) (x : Int) (t : Int) = cleatlaw02_MaskRow.l0 k (o : Int) (s : Int) x2 ((2 ^ o - 1 : Nat) : Int) ((x * (2 ^ t + 1) : Nat) : Int) ((2 * t : Nat) : Int) := by
  have h1 := dbl_lt x t hx
  have h2 : (2 : Nat) ^ (2 * t) ≤ 2 ^ 64 := Nat.pow_le_pow_right (by decide) ht
  have p1 : (2 : Nat) ^ t ≤ 2 ^ 32 := Nat.pow_le_pow_right (by decide) (by omega)
  have h3 : x * 2 ^ t ≤ x * (2 ^ t + 1) := Nat.mul_le_mul_left _ (by omega)
  have e64 : (2 : Nat) ^ 64 = 18446744073709551616 := by decide
  have e32 : (2 : Nat) ^ 32 = 4294967296 := by decide
  simp only [cleatlaw02_MaskRow.l0]
  rw [if_pos (by omega), if_pos (by omega), shl_nat _ _ _ (by show t ≤ 64; omega), Int.one_mul, ← cast_pow, u64_self ((2 ^ t : Nat) : Int) (by omega) (by omega), ← Int.natCast_mul, u64_self ((x * 2 ^ t : Nat) : Int) (by omega) (by omega), ← Int.natCast_add, show x + x * 2 ^ t = x * (2 ^ t + 1) by rw [Nat.mul_add, Nat.mul_one, Nat.add_comm], u64_self _ (by omega) (by omega), wrap64_self _ (by omega) (by omega)]
  rfl
theorem row_all (k o s : Nat) (x2 : Int) (hk : 1000 ≤ k) (hs : Sz s) (ho : o ≤ s) : cleatlaw02_MaskRow.l0 (k + 8) (o : Int) (s : Int) x2 ((2 ^ o - 1 : Nat) : Int) ((2 ^ o - 1 : Nat) : Int) (s : Int) = some true := by
  have hlt : 2 ^ o - 1 < 2 ^ s := by
    have := Nat.pow_le_pow_right (show 0 < 2 by decide) ho
    have := Nat.two_pow_pos o
    omega
  have hend : ∀ m, 1003 ≤ m → cleatlaw02_MaskRow.l0 m (o : Int) (s : Int) x2 ((2 ^ o - 1 : Nat) : Int) ((rep (2 ^ o - 1) s : Nat) : Int) ((64 : Nat) : Int) = some true := fun m hm => by
    obtain ⟨m, rfl⟩ : ∃ q, m = q + 3 := ⟨m - 3, by omega⟩
    exact row_end m o s x2 (by omega) hs ho
  have st : ∀ (t m x : Nat), 1 ≤ m → x < 2 ^ t → 2 * t ≤ 64 → cleatlaw02_MaskRow.l0 m (o : Int) (s : Int) x2 ((2 ^ o - 1 : Nat) : Int) (x : Int) (t : Int) = cleatlaw02_MaskRow.l0 (m - 1) (o : Int) (s : Int) x2 ((2 ^ o - 1 : Nat) : Int) ((x * (2 ^ t + 1) : Nat) : Int) ((2 * t : Nat) : Int) := fun t m x hm h1 h2 => by
    obtain ⟨m, rfl⟩ : ∃ q, m = q + 1 := ⟨m - 1, by omega⟩
    exact row_step m o s t x x2 h1 h2
  generalize (2 ^ o - 1 : Nat) = r at *
  have f32 : ∀ m x, 1004 ≤ m → x < 2 ^ 32 → rep x 32 = rep r s → cleatlaw02_MaskRow.l0 m (o : Int) (s : Int) x2 (r : Int) (x : Int) ((32 : Nat) : Int) = some true := fun m x hm hx he => by
    rw [st 32 m x (by omega) hx (by decide), show 2 * 32 = 64 from rfl, ← rep64 (x * _), ← rep32 x, he]; exact hend _ (by omega)
  have f16 : ∀ m x, 1005 ≤ m → x < 2 ^ 16 → rep x 16 = rep r s → cleatlaw02_MaskRow.l0 m (o : Int) (s : Int) x2 (r : Int) (x : Int) ((16 : Nat) : Int) = some true := fun m x hm hx he => by
    rw [st 16 m x (by omega) hx (by decide)]; exact f32 _ _ (by omega) (dbl_lt x 16 hx) (by rw [← rep16 x, he])
  have f8 : ∀ m x, 1006 ≤ m → x < 2 ^ 8 → rep x 8 = rep r s → cleatlaw02_MaskRow.l0 m (o : Int) (s : Int) x2 (r : Int) (x : Int) ((8 : Nat) : Int) = some true := fun m x hm hx he => by
    rw [st 8 m x (by omega) hx (by decide)]; exact f16 _ _ (by omega) (dbl_lt x 8 hx) (by rw [← rep8 x, he])
  have f4 : ∀ m x, 1007 ≤ m → x < 2 ^ 4 → rep x 4 = rep r s → cleatlaw02_MaskRow.l0 m (o : Int) (s : Int) x2 (r : Int) (x : Int) ((4 : Nat) : Int) = some true := fun m x hm hx he => by
    rw [st 4 m x (by omega) hx (by decide)]; exact f8 _ _ (by omega) (dbl_lt x 4 hx) (by rw [← rep4 x, he])
  have f2 : ∀ m x, 1008 ≤ m → x < 2 ^ 2 → rep x 2 = rep r s → cleatlaw02_MaskRow.l0 m (o : Int) (s : Int) x2 (r : Int) (x : Int) ((2 : Nat) : Int) = some true := fun m x hm hx he => by
    rw [st 2 m x (by omega) hx (by decide)]; exact f4 _ _ (by omega) (dbl_lt x 2 hx) (by rw [← rep2 x, he])
  rcases hs with rfl | rfl | rfl | rfl | rfl | rfl
  · exact f2 _ _ (by omega) hlt rfl
  · exact f4 _ _ (by omega) hlt rfl
  · exact f8 _ _ (by omega) hlt rfl
  · exact f16 _ _ (by omega) hlt rfl
  · exact f32 _ _ (by omega) hlt rfl
  · have := hend (k + 8) (by omega)
    rw [rep64] at this
    exact this
theorem row_j0 (k : Nat) (a0 a2 : Int) (s : Nat) (hk : 1000 ≤ k) (hs : Sz s) (b : Bool) (hb : b = true ∨ (0 ≤ a0 ∧ a0 ≤ s)) : cleatlaw02_MaskRow.j0 (k + 9) a0 (s : Int) a2 b = some true := by
  have hl := hs.le
  simp only [cleatlaw02_MaskRow.j0]
  cases b with
  | true => rw [if_pos rfl, masked_ok _ (by omega)]; rfl
  | false =>
    rcases hb with hb | hb
    · cases hb
    obtain ⟨o, rfl⟩ := Int.eq_ofNat_of_zero_le hb.1
    rw [if_neg (by decide), full_low o (by omega), Option.bind_some]
    exact row_all k o s a2 hk hs (by omega)
theorem row_any (k : Nat) (a0 a1 a2 : Int) (hk : 1000 ≤ k) : cleatlaw02_MaskRow.j0 (k + 9) a0 a1 a2 true = some true := by
  simp only [cleatlaw02_MaskRow.j0]
  rw [if_pos trivial, masked_ok _ (by omega)]; rfl
theorem MaskRow : cleatlaw02_MaskRow.Pure := by
  intro a0 a1 a2 _ _ _
  refine ⟨1009, ?_⟩
  have key : ∀ (s : Nat), Sz s → (if a0 < 0 then cleatlaw02_MaskRow.j0 1009 a0 (s : Int) a2 true else cleatlaw02_MaskRow.j0 1009 a0 (s : Int) a2 (decide (a0 > (s : Int)))) = some true := fun s hs => by
    by_cases h : a0 < 0
    · rw [if_pos h]; exact row_any 1000 _ _ _ (by decide)
    · rw [if_neg h]
      refine row_j0 1000 a0 a2 s (by decide) hs _ ?_
      by_cases h2 : a0 > (s : Int)
      · exact Or.inl (decide_eq_true h2)
      · exact Or.inr ⟨by omega, by omega⟩
  unfold cleatlaw02_MaskRow.f
  by_cases h2 : a1 = 2
  · subst h2; rw [if_pos rfl]; exact key 2 (by simp [Sz])
  rw [if_neg h2]
  by_cases h4 : a1 = 4
  · subst h4; rw [if_pos rfl]; exact key 4 (by simp [Sz])
  rw [if_neg h4]
  by_cases h8 : a1 = 8
  · subst h8; rw [if_pos rfl]; exact key 8 (by simp [Sz])
  rw [if_neg h8]
  by_cases h16 : a1 = 16
  · subst h16; rw [if_pos rfl]; exact key 16 (by simp [Sz])
  rw [if_neg h16]
  by_cases h32 : a1 = 32
  · subst h32; rw [if_pos rfl]; exact key 32 (by simp [Sz])
  rw [if_neg h32]
  by_cases h64 : a1 = 64
  · subst h64; rw [if_pos rfl]; exact key 64 (by simp [Sz])
  rw [if_neg h64]
  exact row_any 1000 _ _ _ (by decide)
end Go.Proofs.YtbklmlbmbnnjkaaDoor.Pure
