/- How many ones a number has: the sum that is taken in lanes is their number. -/
import Derived.Laws.BitsAllLaws
namespace Go.Proofs.YtbklmlbmbnnjkaaDoor.M

/-- How many of the lowest n bits are 1. -/
def cnt : Nat → Nat → Nat
  | 0, _ => 0
  | n + 1, x => x % 2 + cnt n (x / 2)
theorem cnt_le : ∀ n x, cnt n x ≤ n
  | 0, _ => Nat.le_refl _
  | n + 1, x => by have := cnt_le n (x / 2); unfold cnt; omega
theorem cnt_add : ∀ (m n x : Nat), cnt (m + n) x = cnt m x + cnt n (x / 2 ^ m)
  | 0, n, x => by simp [cnt]
  | m + 1, n, x => by
    rw [show m + 1 + n = (m + n) + 1 by omega, cnt, cnt, cnt_add m n (x / 2), Nat.div_div_eq_div_mul, Nat.pow_succ, Nat.mul_comm 2, Nat.add_assoc]
theorem cnt_mod : ∀ (n x : Nat), cnt n (x % 2 ^ n) = cnt n x
  | 0, x => rfl
  | n + 1, x => by
    have h1 : x % 2 ^ (n + 1) % 2 = x % 2 := by rw [Nat.pow_succ, Nat.mul_comm]; exact Nat.mod_mul_right_mod _ _ _
    have h2 : x % 2 ^ (n + 1) / 2 = x / 2 % 2 ^ n := by rw [Nat.pow_succ, Nat.mul_comm]; exact Nat.mod_mul_right_div_self ..
    rw [cnt, cnt, h1, h2, cnt_mod n]

theorem and_split (k x a b : Nat) (ha : a < 2 ^ k) : x &&& (2 ^ k * b + a) = 2 ^ k * (x / 2 ^ k &&& b) + (x % 2 ^ k &&& a) := by
  have hp := Nat.two_pow_pos k
  have hx : x % 2 ^ k &&& a < 2 ^ k := Nat.and_lt_two_pow _ ha
  apply Nat.eq_of_testBit_eq
  intro i
  rw [Nat.testBit_and, Nat.testBit_two_pow_mul_add _ ha, Nat.testBit_two_pow_mul_add _ hx]
  by_cases c : i < k
  · rw [if_pos c, if_pos c, Nat.testBit_and, Nat.testBit_mod_two_pow, decide_eq_true c, Bool.true_and]
  · rw [if_neg c, if_neg c, Nat.testBit_and, Nat.testBit_div_two_pow, show i - k + k = i by omega]

def m1 : Nat → Nat
  | 0 => 0
  | n + 1 => 2 ^ 2 * m1 n + 1
def m2 : Nat → Nat
  | 0 => 0
  | n + 1 => 2 ^ 4 * m2 n + 3
def m3 : Nat → Nat
  | 0 => 0
  | n + 1 => 2 ^ 8 * m3 n + 15
/-- The counts of lanes of so many bits. -/
def lanes (b : Nat) : Nat → Nat → Nat
  | 0, _ => 0
  | n + 1, x => cnt b x + 2 ^ b * lanes b n (x / 2 ^ b)
theorem lanes_cons (b n x : Nat) : lanes b (n + 1) x = cnt b x + 2 ^ b * lanes b n (x / 2 ^ b) := rfl
theorem c2 (x : Nat) : cnt 2 x = x % 2 + x / 2 % 2 := by simp [cnt]
theorem and1 (y : Nat) : y &&& 1 = y % 2 := Nat.and_two_pow_sub_one_eq_mod y 1
theorem and3 (y : Nat) : y &&& 3 = y % 4 := Nat.and_two_pow_sub_one_eq_mod y 2
theorem and15 (y : Nat) : y &&& 15 = y % 16 := Nat.and_two_pow_sub_one_eq_mod y 4
theorem and127 (y : Nat) : y &&& 127 = y % 128 := Nat.and_two_pow_sub_one_eq_mod y 7

theorem stage1 : ∀ (n x : Nat), (x / 2 &&& m1 n) + (x &&& m1 n) = lanes 2 n x
  | 0, x => by simp [m1, lanes]
  | n + 1, x => by
    have ih := stage1 n (x / 4)
    rw [m1, and_split 2 _ 1 _ (by decide), and_split 2 _ 1 _ (by decide), lanes_cons, c2, and1, and1]
    simp only [show (2 : Nat) ^ 2 = 4 from rfl] at *
    rw [← ih, show x / 2 / 4 = x / 4 / 2 by omega]
    omega
theorem lane_bound (b n x : Nat) : lanes b (n + 1) x = cnt b x + 2 ^ b * lanes b n (x / 2 ^ b) ∧ cnt b x ≤ b := ⟨rfl, cnt_le b x⟩
theorem stage2 : ∀ (n x : Nat), (lanes 2 (2 * n) x / 4 &&& m2 n) + (lanes 2 (2 * n) x &&& m2 n) = lanes 4 n x
  | 0, x => by simp [m2, lanes]
  | n + 1, x => by
    have ih := stage2 n (x / 16)
    have e : lanes 2 (2 * (n + 1)) x = cnt 2 x + 4 * (cnt 2 (x / 4) + 4 * lanes 2 (2 * n) (x / 16)) := by
      rw [show 2 * (n + 1) = 2 * n + 1 + 1 by omega, lanes_cons, lanes_cons, Nat.div_div_eq_div_mul]
    have h1 := cnt_le 2 x
    have h2 := cnt_le 2 (x / 4)
    have h3 : cnt 4 x = cnt 2 x + cnt 2 (x / 4) := cnt_add 2 2 x
    rw [m2, and_split 4 _ 3 _ (by decide), and_split 4 _ 3 _ (by decide), lanes_cons, h3, and3, and3]
    simp only [show (2 : Nat) ^ 4 = 16 from rfl] at *
    rw [← ih, e]
    generalize lanes 2 (2 * n) (x / 16) = y at *
    generalize cnt 2 x = a at *
    generalize cnt 2 (x / 4) = b at *
    rw [show (a + 4 * (b + 4 * y)) / 4 / 16 = y / 4 by omega, show (a + 4 * (b + 4 * y)) / 16 = y by omega]
    omega
theorem stage3 : ∀ (n x : Nat), (lanes 4 (2 * n) x / 16 + lanes 4 (2 * n) x) &&& m3 n = lanes 8 n x
  | 0, x => by simp [m3, lanes]
  | n + 1, x => by
    have ih := stage3 n (x / 256)
    have e : lanes 4 (2 * (n + 1)) x = cnt 4 x + 16 * (cnt 4 (x / 16) + 16 * lanes 4 (2 * n) (x / 256)) := by
      rw [show 2 * (n + 1) = 2 * n + 1 + 1 by omega, lanes_cons, lanes_cons, Nat.div_div_eq_div_mul]
    have h1 := cnt_le 4 x
    have h2 := cnt_le 4 (x / 16)
    have h3 : cnt 8 x = cnt 4 x + cnt 4 (x / 16) := cnt_add 4 4 x
    have hy : lanes 4 (2 * n) (x / 256) % 16 ≤ 4 := by
      cases n with
      | zero => simp [lanes]
      | succ n =>
        have := cnt_le 4 (x / 256)
        rw [show 2 * (n + 1) = 2 * n + 1 + 1 by omega, lanes_cons]
        simp only [show (2 : Nat) ^ 4 = 16 from rfl]
        omega
    rw [m3, and_split 8 _ 15 _ (by decide), lanes_cons, h3, and15]
    simp only [show (2 : Nat) ^ 8 = 256 from rfl] at *
    rw [← ih, e]
    generalize lanes 4 (2 * n) (x / 256) = y at *
    generalize cnt 4 x = a at *
    generalize cnt 4 (x / 16) = b at *
    rw [show ((a + 16 * (b + 16 * y)) / 16 + (a + 16 * (b + 16 * y))) / 256 = y / 16 + y by omega]
    omega
theorem lanes8 (x : Nat) : ∃ c0 c1 c2 c3 c4 c5 c6 c7 : Nat, c0 ≤ 8 ∧ c1 ≤ 8 ∧ c2 ≤ 8 ∧ c3 ≤ 8 ∧ c4 ≤ 8 ∧ c5 ≤ 8 ∧ c6 ≤ 8 ∧ c7 ≤ 8 ∧
    lanes 8 8 x = c0 + 256 * (c1 + 256 * (c2 + 256 * (c3 + 256 * (c4 + 256 * (c5 + 256 * (c6 + 256 * c7)))))) ∧ cnt 64 x = c0 + c1 + c2 + c3 + c4 + c5 + c6 + c7 := by
  refine ⟨cnt 8 x, cnt 8 (x / 256), cnt 8 (x / 256 / 256), cnt 8 (x / 256 / 256 / 256), cnt 8 (x / 256 / 256 / 256 / 256), cnt 8 (x / 256 / 256 / 256 / 256 / 256), cnt 8 (x / 256 / 256 / 256 / 256 / 256 / 256), cnt 8 (x / 256 / 256 / 256 / 256 / 256 / 256 / 256),
    cnt_le _ _, cnt_le _ _, cnt_le _ _, cnt_le _ _, cnt_le _ _, cnt_le _ _, cnt_le _ _, cnt_le _ _, ?_, ?_⟩
  · simp only [lanes, show (2 : Nat) ^ 8 = 256 from rfl, Nat.mul_zero, Nat.add_zero]
  · rw [show 64 = 8 + 56 from rfl, cnt_add 8 56, show 56 = 8 + 48 from rfl, cnt_add 8 48, show 48 = 8 + 40 from rfl, cnt_add 8 40, show 40 = 8 + 32 from rfl, cnt_add 8 32, show 32 = 8 + 24 from rfl, cnt_add 8 24, show 24 = 8 + 16 from rfl, cnt_add 8 16, show 16 = 8 + 8 from rfl, cnt_add 8 8]
    simp only [show (2 : Nat) ^ 8 = 256 from rfl]
    omega
/-- The last three sums, and the mask. -/
theorem stage4 (w x y z c0 c1 c2 c3 c4 c5 c6 c7 : Nat) (h0 : c0 ≤ 8) (h1 : c1 ≤ 8) (h2 : c2 ≤ 8) (h3 : c3 ≤ 8) (h4 : c4 ≤ 8) (h5 : c5 ≤ 8) (h6 : c6 ≤ 8) (h7 : c7 ≤ 8)
    (hw : w = c0 + 256 * (c1 + 256 * (c2 + 256 * (c3 + 256 * (c4 + 256 * (c5 + 256 * (c6 + 256 * c7))))))) (hx : x = w + w / 256) (hy : y = x + x / 65536) (hz : z = y + y / 4294967296) :
    w < 18446744073709551616 ∧ x < 18446744073709551616 ∧ y < 18446744073709551616 ∧ z < 18446744073709551616 ∧ z % 128 = c0 + c1 + c2 + c3 + c4 + c5 + c6 + c7 := by
  have e1 : w / 256 = c1 + 256 * (c2 + 256 * (c3 + 256 * (c4 + 256 * (c5 + 256 * (c6 + 256 * c7))))) := by omega
  have e2 : x = (c0 + c1) + 256 * ((c1 + c2) + 256 * ((c2 + c3) + 256 * ((c3 + c4) + 256 * ((c4 + c5) + 256 * ((c5 + c6) + 256 * ((c6 + c7) + 256 * c7)))))) := by omega
  have b0 : w < 18446744073709551616 := by omega
  clear e1 hw hx
  have e3 : x / 65536 = (c2 + c3) + 256 * ((c3 + c4) + 256 * ((c4 + c5) + 256 * ((c5 + c6) + 256 * ((c6 + c7) + 256 * c7)))) := by omega
  have e4 : y = (c0 + c1 + c2 + c3) + 256 * ((c1 + c2 + c3 + c4) + 256 * ((c2 + c3 + c4 + c5) + 256 * ((c3 + c4 + c5 + c6) + 256 * ((c4 + c5 + c6 + c7) + 256 * ((c5 + c6 + c7) + 256 * ((c6 + c7) + 256 * c7)))))) := by omega
  have b1 : x < 18446744073709551616 := by omega
  clear e2 e3 hy
  have e5 : y / 4294967296 = (c4 + c5 + c6 + c7) + 256 * ((c5 + c6 + c7) + 256 * ((c6 + c7) + 256 * c7)) := by omega
  have e6 : z = (c0 + c1 + c2 + c3 + c4 + c5 + c6 + c7) + 256 * ((c1 + c2 + c3 + c4 + c5 + c6 + c7) + 256 * ((c2 + c3 + c4 + c5 + c6 + c7) + 256 * ((c3 + c4 + c5 + c6 + c7) + 256 * ((c4 + c5 + c6 + c7) + 256 * ((c5 + c6 + c7) + 256 * ((c6 + c7) + 256 * c7)))))) := by omega
  have b2 : y < 18446744073709551616 := by omega
  clear e4 e5 hz
  exact ⟨b0, b1, b2, by omega, by omega⟩
end Go.Proofs.YtbklmlbmbnnjkaaDoor.M
