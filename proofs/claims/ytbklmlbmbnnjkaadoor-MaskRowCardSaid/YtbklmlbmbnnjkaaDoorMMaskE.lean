/- The document's answer for masks, and that the program's is just it (chapter 2). -/
import Derived.Test.YtbklmlbmbnnjkaaDoorMMaskA
import Derived.Test.YtbklmlbmbnnjkaaDoorMMaskA1
import Derived.Test.YtbklmlbmbnnjkaaDoorMMaskA2
import Derived.Test.YtbklmlbmbnnjkaaDoorMMaskA3
namespace Go.Proofs.YtbklmlbmbnnjkaaDoor.M
open Go.RowKit Go.Proofs.YtbklmlbmbnnjkaaDoor.P Go.Proofs.YtbklmlbmbnnjkaaDoorW.PrintWords Go.Proofs.YtbklmlbmbnnjkaaDoorW.PrintLast Go.Proofs.YtbklmlbmbnnjkaaDoorW.PrintMore

theorem told_spec (k s o r : Nat) (hk : 100 ≤ k) (hs : Sz s) (h1 : 0 < o) (h2 : o < s) (hr : r < s) : mask_Encode.f k (maskN s o r : Nat) = some (nOf s, (r : Int), ((o - 1 + fr s : Nat) : Int), 0) := by
  refine at_rounds (mask_Encode.mono _) hk ?_
  rcases hs with rfl | rfl | rfl | rfl | rfl | rfl
  · exact toldAll_get toldAll_2 o r (by omega) (by omega) hr
  · exact toldAll_get toldAll_4 o r (by omega) (by omega) hr
  · exact toldAll_get toldAll_8 o r (by omega) (by omega) hr
  · exact toldAll_get toldAll_16 o r (by omega) (by omega) hr
  · exact toldAll_get toldAll_32 o r (by omega) (by omega) hr
  · by_cases c1 : o < 22
    · exact toldAll_get toldAll_64a o r (by omega) (by omega) hr
    · by_cases c2 : o < 43
      · exact toldAll_get toldAll_64b o r (by omega) (by omega) hr
      · exact toldAll_get toldAll_64c o r (by omega) (by omega) hr

theorem ref_row_loop (o r s : Nat) (hs : Sz s) (ho : o < s) (hr : r < s) : ∀ (d i k : Nat), i + d = o → 300 + d ≤ k →
    cleatref02_row.l0 k (o : Int) (r : Int) (s : Int) ((2 ^ i - 1 : Nat) : Int) (i : Int) = some ((rotN (2 ^ o - 1) r s : Nat) : Int) := by
  have hsl := hs.le
  have hlt : 2 ^ o - 1 < 2 ^ s := by
    have := Nat.pow_le_pow_right (show 0 < 2 by decide) (Nat.le_of_lt ho)
    have := Nat.two_pow_pos o
    omega
  intro d
  induction d with
  | zero =>
    intro i k hi hk
    obtain ⟨k, rfl⟩ : ∃ m, k = m + 1 := ⟨k - 1, by omega⟩
    obtain rfl : i = o := by omega
    simp only [cleatref02_row.l0]
    rw [if_neg (by omega), ref_rot_spec k _ _ _ (by omega) (by omega) (nat_64 s _ hsl hlt), Option.bind_some, rotV_nat _ r s hs.sizeB hr, if_pos (by have := cast_pow s; omega)]
  | succ d ih =>
    intro i k hi hk
    obtain ⟨k, rfl⟩ : ∃ m, k = m + 1 := ⟨k - 1, by omega⟩
    have hn := ih (i + 1) k (by omega) (by omega)
    have hp := Nat.pow_le_pow_right (show 0 < 2 by decide) (show i ≤ 63 by omega)
    have hp0 := Nat.two_pow_pos i
    have e63 : (2 : Nat) ^ 63 = 9223372036854775808 := by decide
    have es : (2 : Nat) ^ (i + 1) = 2 * 2 ^ i := by rw [Nat.pow_succ, Nat.mul_comm]
    have ec := cast_pow i
    simp only [cleatref02_row.l0]
    rw [if_pos (by omega), power_nat k i (by omega) (by omega), Option.bind_some, u64_self _ (by omega) (by omega), wrap64_self _ (by omega) (by omega), show (i : Int) + 1 = ((i + 1 : Nat) : Int) by omega,
      show ((2 ^ i - 1 : Nat) : Int) + (2 : Int) ^ i = ((2 ^ (i + 1) - 1 : Nat) : Int) by omega]
    exact hn
theorem ref_row_spec (k o r s : Nat) (hk : 370 ≤ k) (hs : Sz s) (ho : o < s) (hr : r < s) : cleatref02_row.f k (o : Int) (r : Int) (s : Int) = some ((rotN (2 ^ o - 1) r s : Nat) : Int) :=
  ref_row_loop o r s hs ho hr o 0 k (by omega) (by have := hs.le; omega)
theorem ref_enc_loop (v s o : Nat) (hs : Sz s) (hv : v < 2 ^ 64) (h0 : 0 < o) (ho : o < s) : ∀ (d r k : Nat), r + d = s → 400 + 2 * d ≤ k →
    (∃ r0, r0 < s ∧ rotN (2 ^ o - 1) r0 s = v % 2 ^ s ∧ cleatref02_Encode.l0 k (v : Int) (s : Int) (o : Int) (r : Int) = some (nOf s, (r0 : Int), ((o - 1 + fr s : Nat) : Int), 0)) ∨
    ((∀ r0, r ≤ r0 → r0 < s → rotN (2 ^ o - 1) r0 s ≠ v % 2 ^ s) ∧ cleatref02_Encode.l0 k (v : Int) (s : Int) (o : Int) (r : Int) = some (0, 0, 0, 3)) := by
  have hsl := hs.le
  intro d
  induction d with
  | zero =>
    intro r k hi hk
    obtain ⟨k, rfl⟩ : ∃ m, k = m + 2 := ⟨k - 2, by omega⟩
    refine Or.inr ⟨fun r0 h1 h2 => by omega, ?_⟩
    simp only [cleatref02_Encode.l0]
    rw [if_neg (by omega)]
    simp only [cleatref02_Encode.j1]
    rw [if_neg (by decide)]
  | succ d ih =>
    intro r k hi hk
    obtain ⟨k, rfl⟩ : ∃ m, k = m + 2 := ⟨k - 2, by omega⟩
    have hn := ih (r + 1) k (by omega) (by omega)
    simp only [cleatref02_Encode.l0]
    rw [if_pos (by omega), if_pos (by omega), show decide ((o : Int) < (s : Int)) = true from decide_eq_true (by omega)]
    simp only [cleatref02_Encode.j1]
    rw [if_pos trivial, ref_row_spec k o r s (by omega) hs ho (by omega), Option.bind_some, ref_low_sz k v s (by omega) hs hv, Option.bind_some]
    by_cases he : rotN (2 ^ o - 1) r s = v % 2 ^ s
    · refine Or.inl ⟨r, by omega, he, ?_⟩
      rw [if_pos (by omega)]
      unfold nOf fr
      by_cases h64 : s = 64
      · rw [if_pos (by omega), if_pos h64, if_pos h64, wrap64_self _ (by omega) (by omega)]
        congr 4
        omega
      · have : s ≤ 32 := by unfold Sz at hs; omega
        rw [if_neg (by omega), if_neg h64, if_neg h64, wrap64_self ((o : Int) - 1) (by omega) (by omega), wrap64_self ((o : Int) - 1 + 64) (by omega) (by omega), wrap64_self (2 * (s : Int)) (by omega) (by omega), wrap64_self _ (by omega) (by omega)]
        congr 4
        omega
    · rw [if_neg (by omega), wrap64_self _ (by omega) (by omega), show (r : Int) + 1 = ((r + 1 : Nat) : Int) by omega]
      rcases hn with ⟨r0, a, b, c⟩ | ⟨a, b⟩
      · exact Or.inl ⟨r0, a, b, c⟩
      · refine Or.inr ⟨fun r0 h1 h2 => ?_, b⟩
        by_cases hr : r0 = r
        · subst hr; exact he
        · exact a r0 (by omega) h2
/-- What program and document tell of a number. -/
theorem enc_cases (k v : Nat) (hk : 700 ≤ k) (hv : v < 2 ^ 64) :
    (∃ s o r, Sz s ∧ 0 < o ∧ o < s ∧ r < s ∧ v = maskN s o r ∧ s = sizeV v ∧ mask_Encode.f k (v : Int) = some (nOf s, (r : Int), ((o - 1 + fr s : Nat) : Int), 0) ∧ cleatref02_Encode.f k (v : Int) = some (nOf s, (r : Int), ((o - 1 + fr s : Nat) : Int), 0)) ∨
    (¬ Turned (v % 2 ^ sizeV v) (sizeV v) (cnt 64 (v % 2 ^ sizeV v)) ∧ mask_Encode.f k (v : Int) = some (0, 0, 0, 3) ∧ cleatref02_Encode.f k (v : Int) = some (0, 0, 0, 3)) := by
  have hs := sizeV_sz v
  have hsl := hs.le
  have hx : v % 2 ^ sizeV v < 2 ^ sizeV v := Nat.mod_lt _ (Nat.two_pow_pos _)
  have hx64 : v % 2 ^ sizeV v < 2 ^ 64 := Nat.lt_of_le_of_lt (Nat.mod_le _ _) hv
  have hrep := sizeV_eq v hv
  have hnone := encode_none k v (by omega) hv
  have href : cleatref02_Encode.f k (v : Int) = cleatref02_Encode.l0 k (v : Int) ((sizeV v : Nat) : Int) ((cnt 64 (v % 2 ^ sizeV v) : Nat) : Int) 0 := by
    unfold cleatref02_Encode.f
    rw [ref_size_spec k v (by omega) hv, Option.bind_some, ref_low_sz k v _ (by omega) hs hv, Option.bind_some, ref_ones_spec k _ (by omega) hx64, Option.bind_some]
  rw [href]
  generalize hs_ : sizeV v = s at *
  generalize ho_ : cnt 64 (v % 2 ^ s) = o at *
  by_cases h0 : 0 < o ∧ o < s
  · rcases ref_enc_loop v s o hs hv h0.1 h0.2 s 0 k (by omega) (by omega) with ⟨r0, a, b, c⟩ | ⟨a, b⟩
    · refine Or.inl ⟨s, o, r0, hs, h0.1, h0.2, a, ?_, rfl, ?_, c⟩
      · unfold maskN; rw [b, hrep]
      · have := told_spec k s o r0 (by omega) hs h0.1 h0.2 a
        unfold maskN at this
        rw [b, hrep] at this
        exact this
    · have hno : ¬ Turned (v % 2 ^ s) s o := by
        rintro ⟨_, _, r, hr, he⟩
        exact a r (Nat.zero_le _) hr he
      exact Or.inr ⟨hno, hnone hno, b⟩
  · have hno : ¬ Turned (v % 2 ^ s) s o := by
      rintro ⟨h1, h2, _⟩
      exact h0 ⟨h1, h2⟩
    refine Or.inr ⟨hno, hnone hno, ?_⟩
    obtain ⟨k, rfl⟩ : ∃ m, k = m + 2 := ⟨k - 2, by omega⟩
    simp only [cleatref02_Encode.l0]
    have hj : ∀ b : Bool, b = false → cleatref02_Encode.j1 (k + 1) (v : Int) (s : Int) (o : Int) 0 b = some (0, 0, 0, 3) := by
      intro b hb
      simp only [cleatref02_Encode.j1]
      rw [if_neg (by rw [hb]; decide)]
    split
    · split
      · exact hj _ (decide_eq_false (by omega))
      · exact hj _ rfl
    · exact hj _ rfl
end Go.Proofs.YtbklmlbmbnnjkaaDoor.M
