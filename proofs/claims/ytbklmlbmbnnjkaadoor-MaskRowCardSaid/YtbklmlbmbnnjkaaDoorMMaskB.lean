/- The sizes of numbers, and how many ones they have (chapter 2). -/
import Derived.Test.YtbklmlbmbnnjkaaDoorMMask
namespace Go.Proofs.YtbklmlbmbnnjkaaDoor.M
open Go.RowKit Go.Proofs.YtbklmlbmbnnjkaaDoor.P Go.Proofs.YtbklmlbmbnnjkaaDoorW.PrintWords Go.Proofs.YtbklmlbmbnnjkaaDoorW.PrintLast Go.Proofs.YtbklmlbmbnnjkaaDoorW.PrintMore

/-- Is a number its lowest s bits again and again? -/
def isRep (v s : Nat) : Bool := rep (v % 2 ^ s) s == v
/-- The size of a number. -/
def sizeV (v : Nat) : Nat := if isRep v 2 then 2 else if isRep v 4 then 4 else if isRep v 8 then 8 else if isRep v 16 then 16 else if isRep v 32 then 32 else 64
theorem sizeV_sz (v : Nat) : Sz (sizeV v) := by unfold sizeV Sz; (repeat' split) <;> simp
theorem isRep64 (v : Nat) (h : v < 2 ^ 64) : isRep v 64 = true := by unfold isRep; rw [rep64, Nat.mod_eq_of_lt h]; exact beq_self_eq_true v
theorem sizeV_rep (v : Nat) (h : v < 2 ^ 64) : isRep v (sizeV v) = true := by
  unfold sizeV
  (repeat' split) <;> first | assumption | exact isRep64 v h
theorem sizeV_eq (v : Nat) (h : v < 2 ^ 64) : rep (v % 2 ^ sizeV v) (sizeV v) = v := eq_of_beq (sizeV_rep v h)
/-- No lesser size will do. -/
theorem sizeV_least (v s : Nat) (hs : Sz s) (h : s < sizeV v) : isRep v s = false := by
  have hz := sizeV_sz v
  cases hb : isRep v s with
  | false => rfl
  | true =>
    exfalso
    unfold sizeV at h
    rcases hs with rfl | rfl | rfl | rfl | rfl | rfl <;> (try rw [hb] at h) <;> (repeat' split at h) <;> first | omega | simp_all
theorem low_sz (v s : Nat) (hs : Sz s) (h : v < 2 ^ 64) : bits_Low.f (v : Int) (s : Int) = some ((v % 2 ^ s : Nat) : Int) := by
  have e64 : (2 : Nat) ^ 64 = 18446744073709551616 := by decide
  rw [low_nat (v : Int) s hs.le (by omega) (by omega) _ (clamp_in s hs.le), Int.natCast_emod, cast_pow]
theorem ref_low_sz (k v s : Nat) (hk : 70 ≤ k) (hs : Sz s) (h : v < 2 ^ 64) : cleatref01_Low.f k (v : Int) (s : Int) = some ((v % 2 ^ s : Nat) : Int) := by
  have e64 : (2 : Nat) ^ 64 = 18446744073709551616 := by decide
  have hp := hs.pos
  rw [ref_low_spec k v s hk (by omega)]
  unfold lowV
  rw [if_neg (by omega)]
  by_cases hs64 : s = 64
  · subst hs64
    rw [if_pos (by decide), Nat.mod_eq_of_lt h]
  · have := hs.le
    rw [if_neg (by omega), Int.toNat_natCast, Int.natCast_emod, cast_pow]
theorem ask_spec (k v s : Nat) (hk : 6 ≤ k) (hs : Sz s) (h : v < 2 ^ 64) : mask_ask.f k (v : Int) (s : Int) = some (isRep v s) := by
  unfold mask_ask.f isRep
  rw [low_sz v s hs h]
  simp only [Option.bind_some]
  rw [again_spec k _ s hk hs (Nat.mod_lt _ (Nat.two_pow_pos s))]
  simp only [Option.bind_some]
  congr 1
  rw [Bool.eq_iff_iff, beq_iff_eq, beq_iff_eq]
  omega
theorem size_spec (k v : Nat) (hk : 6 ≤ k) (h : v < 2 ^ 64) : mask_Size.f k (v : Int) = some ((sizeV v : Nat) : Int) := by
  have a2 : mask_ask.f k (v : Int) 2 = some (isRep v 2) := ask_spec k v 2 hk (by simp [Sz]) h
  have a4 : mask_ask.f k (v : Int) 4 = some (isRep v 4) := ask_spec k v 4 hk (by simp [Sz]) h
  have a8 : mask_ask.f k (v : Int) 8 = some (isRep v 8) := ask_spec k v 8 hk (by simp [Sz]) h
  have a16 : mask_ask.f k (v : Int) 16 = some (isRep v 16) := ask_spec k v 16 hk (by simp [Sz]) h
  have a32 : mask_ask.f k (v : Int) 32 = some (isRep v 32) := ask_spec k v 32 hk (by simp [Sz]) h
  have a64 : mask_ask.f k (v : Int) 64 = some (isRep v 64) := ask_spec k v 64 hk (by simp [Sz]) h
  rw [isRep64 v h] at a64
  unfold mask_Size.f mask_sizes.f sizeV
  rw [a2, Option.bind_some]
  split
  · rfl
  rw [a4, Option.bind_some]
  split
  · rfl
  rw [a8, Option.bind_some]
  split
  · rfl
  rw [a16, Option.bind_some]
  split
  · rfl
  rw [a32, Option.bind_some]
  split
  · rfl
  rw [a64, Option.bind_some]
  rfl
theorem ref_size_step (k v s : Nat) (hk : 200 ≤ k) (hs : Sz s) (hs2 : s < 64) (h : v < 2 ^ 64) :
    cleatref02_Size.l0 (k + 1) (v : Int) (s : Int) = if isRep v s then some (s : Int) else cleatref02_Size.l0 k (v : Int) ((2 * s : Nat) : Int) := by
  simp only [cleatref02_Size.l0]
  rw [if_pos (by omega), ref_low_sz k v s (by omega) hs h, Option.bind_some, ref_again_spec k _ s (by omega) hs (Nat.mod_lt _ (Nat.two_pow_pos s)), Option.bind_some]
  unfold isRep
  by_cases he : rep (v % 2 ^ s) s = v
  · rw [if_pos (by omega), if_pos (by simpa using he)]
  · rw [if_neg (by omega), if_neg (by simpa using he), wrap64_self _ (by omega) (by omega)]
    rfl
theorem ref_size_spec (k v : Nat) (hk : 210 ≤ k) (h : v < 2 ^ 64) : cleatref02_Size.f k (v : Int) = some ((sizeV v : Nat) : Int) := by
  obtain ⟨k, rfl⟩ : ∃ m, k = m + 6 := ⟨k - 6, by omega⟩
  unfold cleatref02_Size.f sizeV
  refine (ref_size_step (k + 5) v 2 (by omega) (by simp [Sz]) (by decide) h).trans ?_
  split
  · rfl
  refine (ref_size_step (k + 4) v 4 (by omega) (by simp [Sz]) (by decide) h).trans ?_
  split
  · rfl
  refine (ref_size_step (k + 3) v 8 (by omega) (by simp [Sz]) (by decide) h).trans ?_
  split
  · rfl
  refine (ref_size_step (k + 2) v 16 (by omega) (by simp [Sz]) (by decide) h).trans ?_
  split
  · rfl
  refine (ref_size_step (k + 1) v 32 (by omega) (by simp [Sz]) (by decide) h).trans ?_
  split
  · rfl
  show cleatref02_Size.l0 (k + 1) (v : Int) 64 = some 64
  simp only [cleatref02_Size.l0]
  rw [if_neg (by decide)]

/-- The document's Ones. -/
theorem ref_ones_loop (v : Nat) (hv : v < 2 ^ 64) : ∀ (d i k : Nat), i + d = 64 → 80 + d ≤ k →
    cleatref02_Ones.l0 k (v : Int) ((cnt i v : Nat) : Int) (i : Int) = some ((cnt 64 v : Nat) : Int) := by
  intro d
  induction d with
  | zero =>
    intro i k hi hk
    obtain ⟨k, rfl⟩ : ∃ m, k = m + 1 := ⟨k - 1, by omega⟩
    obtain rfl : i = 64 := by omega
    simp only [cleatref02_Ones.l0]
    rw [if_neg (by decide)]
  | succ d ih =>
    intro i k hi hk
    obtain ⟨k, rfl⟩ : ∃ m, k = m + 1 := ⟨k - 1, by omega⟩
    have hn := ih (i + 1) k (by omega) (by omega)
    have hle := cnt_le i v
    have hc : cnt (i + 1) v = cnt i v + v / 2 ^ i % 2 := by
      rw [cnt_add i 1 v]; show _ + ((v / 2 ^ i) % 2 + 0) = _; rfl
    simp only [cleatref02_Ones.l0]
    rw [if_pos (by omega), bit_testBit _ _ _ (by omega) (by omega) hv, Nat.testBit_eq_decide_div_mod_eq]
    simp only [Option.bind_some]
    rw [wrap64_self ((i : Int) + 1) (by omega) (by omega), show (i : Int) + 1 = ((i + 1 : Nat) : Int) by omega]
    by_cases hb : v / 2 ^ i % 2 = 1
    · rw [if_pos (by simpa using hb), wrap64_self _ (by omega) (by omega)]
      rw [hc, hb] at hn
      exact hn
    · rw [if_neg (by simpa using hb)]
      rw [hc, show v / 2 ^ i % 2 = 0 by omega, Nat.add_zero] at hn
      exact hn
theorem ref_ones_spec (k v : Nat) (hk : 150 ≤ k) (h : v < 2 ^ 64) : cleatref02_Ones.f k (v : Int) = some ((cnt 64 v : Nat) : Int) := ref_ones_loop v h 64 0 k (by omega) (by omega)
end Go.Proofs.YtbklmlbmbnnjkaaDoor.M
