/- Written for this claim by a program of this session: what the claim uses of lemmas and proved contracts of Go functions. -/
import Derived.Test.YtblnfngigdipcaaDoorZRenWMore
import Derived.Test.YtblnfngigdipcaaDoorZRenWWords
import Derived.Test.YtblnfngigdipcaaDoorZRenWLast
import Derived.Laws.BitsAllLaws
import Derived.RowKit
import Derived.Test.YtblnfngigdipcaaDoorZRenPx2
import Derived.Test.YtblnfngigdipcaaDoorZRenPx3
import Derived.Test.YtblnfngigdipcaaDoorZRenPx4
namespace Go.Proofs.YtblnfngigdipcaaDoor.M
open Go.RowKit Go.Proofs.YtblnfngigdipcaaDoorW.PrintWords Go.Proofs.YtblnfngigdipcaaDoorW.PrintLast Go.Proofs.YtblnfngigdipcaaDoorW.PrintMore
theorem pow_pos (n : Nat) : (0 : Int) < 2 ^ n := Int.pow_pos (by decide)
theorem pow_split (a b : Nat) : (2 : Int) ^ (a + b) = 2 ^ a * 2 ^ b := Int.pow_add 2 a b
theorem pow_le (a b : Nat) (h : a ≤ b) : (2 : Int) ^ a ≤ 2 ^ b := by
  obtain ⟨c, rfl⟩ := Nat.exists_eq_add_of_le h
  rw [pow_split]
  have h1 := pow_pos a
  have h2 := pow_pos c
  have := Int.mul_le_mul_of_nonneg_left (show (1 : Int) ≤ 2 ^ c by omega) (Int.le_of_lt h1)
  simpa using this
theorem wrap64_self (x : Int) (h0 : -9223372036854775808 ≤ x) (h1 : x < 9223372036854775808) : wrap64 x = x := by unfold wrap64; omega
theorem u64_self (x : Int) (h0 : 0 ≤ x) (h1 : x < 18446744073709551616) : IntKind.u64.wrap x = x := by rw [IntKind.wrap_u64]; omega
theorem shl_nat (k : IntKind) (x : Int) (n : Nat) (h : n ≤ k.bits) : shl k x (n : Int) = k.wrap (x * 2 ^ n) := by unfold shl; rw [Int.toNat_natCast, Nat.min_eq_left h]
theorem shr_nat (k : IntKind) (x : Int) (n : Nat) (h : n ≤ k.bits) : shr k x (n : Int) = x / 2 ^ n := by unfold shr; rw [Int.toNat_natCast, Nat.min_eq_left h]
theorem toNat_pow (n : Nat) : ((2 : Int) ^ n - 1).toNat = 2 ^ n - 1 := by
  have : ((2 ^ n : Nat) : Int) = (2 : Int) ^ n := by simp
  have := Nat.two_pow_pos n
  omega
theorem and_ones_u64 (a : Int) (n : Nat) (h : n ≤ 64) (a0 : 0 ≤ a) (a1 : a < 18446744073709551616) : bits .and .u64 a (2 ^ n - 1) = a % 2 ^ n := by
  have hp := pow_pos n
  have hs : (2 : Int) ^ n ≤ 2 ^ 64 := pow_le n 64 h
  rw [u64_and a _ a0 a1 (by omega) (by simp at hs; omega), toNat_pow, Nat.and_two_pow_sub_one_eq_mod]
  obtain ⟨m, rfl⟩ := Int.eq_ofNat_of_zero_le a0
  simp
theorem mod_64 (v : Int) (v0 : 0 ≤ v) (v1 : v < 18446744073709551616) : v % 2 ^ 64 = v := Int.emod_eq_of_lt v0 v1
end Go.Proofs.YtblnfngigdipcaaDoor.M
namespace Go.Proofs.YtblnfngigdipcaaDoor.M
open Go.RowKit
end Go.Proofs.YtblnfngigdipcaaDoor.M
namespace Go.Proofs.YtblnfngigdipcaaDoor.M
/-- How many of the lowest n bits are 1. -/
def cnt : Nat → Nat → Nat
  | 0, _ => 0
  | n + 1, x => x % 2 + cnt n (x / 2)
theorem cnt_le : ∀ n x, cnt n x ≤ n
  | 0, _ => Nat.le_refl _
  | n + 1, x => by have := cnt_le n (x / 2); unfold cnt; omega
theorem cnt_add : ∀ (m n x : Nat), cnt (m + n) x = cnt m x + cnt n (x / 2 ^ m)
  | 0, n, x => by simp [cnt]
  | m + 1, n, x => by
    rw [show m + 1 + n = (m + n) + 1 by omega, cnt, cnt, cnt_add m n (x / 2), Nat.div_div_eq_div_mul, Nat.pow_succ, Nat.mul_comm 2, Nat.add_assoc]
theorem and_split (k x a b : Nat) (ha : a < 2 ^ k) : x &&& (2 ^ k * b + a) = 2 ^ k * (x / 2 ^ k &&& b) + (x % 2 ^ k &&& a) := by
  have hp := Nat.two_pow_pos k
  have hx : x % 2 ^ k &&& a < 2 ^ k := Nat.and_lt_two_pow _ ha
  apply Nat.eq_of_testBit_eq
  intro i
  rw [Nat.testBit_and, Nat.testBit_two_pow_mul_add _ ha, Nat.testBit_two_pow_mul_add _ hx]
  by_cases c : i < k
  · rw [if_pos c, if_pos c, Nat.testBit_and, Nat.testBit_mod_two_pow, decide_eq_true c, Bool.true_and]
  · rw [if_neg c, if_neg c, Nat.testBit_and, Nat.testBit_div_two_pow, show i - k + k = i by omega]
def m1 : Nat → Nat
  | 0 => 0
  | n + 1 => 2 ^ 2 * m1 n + 1
def m2 : Nat → Nat
  | 0 => 0
  | n + 1 => 2 ^ 4 * m2 n + 3
def m3 : Nat → Nat
  | 0 => 0
  | n + 1 => 2 ^ 8 * m3 n + 15
/-- The counts of lanes of so many bits. -/
def lanes (b : Nat) : Nat → Nat → Nat
  | 0, _ => 0
  | n + 1, x => cnt b x + 2 ^ b * lanes b n (x / 2 ^ b)
theorem lanes_cons (b n x : Nat) : lanes b (n + 1) x = cnt b x + 2 ^ b * lanes b n (x / 2 ^ b) := rfl
theorem c2 (x : Nat) : cnt 2 x = x % 2 + x / 2 % 2 := by simp [cnt]
theorem and1 (y : Nat) : y &&& 1 = y % 2 := Nat.and_two_pow_sub_one_eq_mod y 1
theorem and3 (y : Nat) : y &&& 3 = y % 4 := Nat.and_two_pow_sub_one_eq_mod y 2
theorem and15 (y : Nat) : y &&& 15 = y % 16 := Nat.and_two_pow_sub_one_eq_mod y 4
theorem and127 (y : Nat) : y &&& 127 = y % 128 := Nat.and_two_pow_sub_one_eq_mod y 7
theorem stage1 : ∀ (n x : Nat), (x / 2 &&& m1 n) + (x &&& m1 n) = lanes 2 n x
  | 0, x => by simp [m1, lanes]
  | n + 1, x => by
    have ih := stage1 n (x / 4)
    rw [m1, and_split 2 _ 1 _ (by decide), and_split 2 _ 1 _ (by decide), lanes_cons, c2, and1, and1]
    simp only [show (2 : Nat) ^ 2 = 4 from rfl] at *
    rw [← ih, show x / 2 / 4 = x / 4 / 2 by omega]
    omega
theorem stage2 : ∀ (n x : Nat), (lanes 2 (2 * n) x / 4 &&& m2 n) + (lanes 2 (2 * n) x &&& m2 n) = lanes 4 n x
  | 0, x => by simp [m2, lanes]
  | n + 1, x => by
    have ih := stage2 n (x / 16)
    have e : lanes 2 (2 * (n + 1)) x = cnt 2 x + 4 * (cnt 2 (x / 4) + 4 * lanes 2 (2 * n) (x / 16)) := by
      rw [show 2 * (n + 1) = 2 * n + 1 + 1 by omega, lanes_cons, lanes_cons, Nat.div_div_eq_div_mul]
    have h1 := cnt_le 2 x
    have h2 := cnt_le 2 (x / 4)
    have h3 : cnt 4 x = cnt 2 x + cnt 2 (x / 4) := cnt_add 2 2 x
    rw [m2, and_split 4 _ 3 _ (by decide), and_split 4 _ 3 _ (by decide), lanes_cons, h3, and3, and3]
    simp only [show (2 : Nat) ^ 4 = 16 from rfl] at *
    rw [← ih, e]
    generalize lanes 2 (2 * n) (x / 16) = y at *
    generalize cnt 2 x = a at *
    generalize cnt 2 (x / 4) = b at *
    rw [show (a + 4 * (b + 4 * y)) / 4 / 16 = y / 4 by omega, show (a + 4 * (b + 4 * y)) / 16 = y by omega]
    omega
theorem stage3 : ∀ (n x : Nat), (lanes 4 (2 * n) x / 16 + lanes 4 (2 * n) x) &&& m3 n = lanes 8 n x
  | 0, x => by simp [m3, lanes]
  | n + 1, x => by
    have ih := stage3 n (x / 256)
    have e : lanes 4 (2 * (n + 1)) x = cnt 4 x + 16 * (cnt 4 (x / 16) + 16 * lanes 4 (2 * n) (x / 256)) := by
      rw [show 2 * (n + 1) = 2 * n + 1 + 1 by omega, lanes_cons, lanes_cons, Nat.div_div_eq_div_mul]
    have h1 := cnt_le 4 x
    have h2 := cnt_le 4 (x / 16)
    have h3 : cnt 8 x = cnt 4 x + cnt 4 (x / 16) := cnt_add 4 4 x
    have hy : lanes 4 (2 * n) (x / 256) % 16 ≤ 4 := by
      cases n with
      | zero => simp [lanes]
      | succ n =>
        have := cnt_le 4 (x / 256)
        rw [show 2 * (n + 1) = 2 * n + 1 + 1 by omega, lanes_cons]
        simp only [show (2 : Nat) ^ 4 = 16 from rfl]
        omega
    rw [m3, and_split 8 _ 15 _ (by decide), lanes_cons, h3, and15]
    simp only [show (2 : Nat) ^ 8 = 256 from rfl] at *
    rw [← ih, e]
    generalize lanes 4 (2 * n) (x / 256) = y at *
    generalize cnt 4 x = a at *
    generalize cnt 4 (x / 16) = b at *
    rw [show ((a + 16 * (b + 16 * y)) / 16 + (a + 16 * (b + 16 * y))) / 256 = y / 16 + y by omega]
    omega
theorem lanes8 (x : Nat) : ∃ c0 c1 c2 c3 c4 c5 c6 c7 : Nat, c0 ≤ 8 ∧ c1 ≤ 8 ∧ c2 ≤ 8 ∧ c3 ≤ 8 ∧ c4 ≤ 8 ∧ c5 ≤ 8 ∧ c6 ≤ 8 ∧ c7 ≤ 8 ∧
    lanes 8 8 x = c0 + 256 * (c1 + 256 * (c2 + 256 * (c3 + 256 * (c4 + 256 * (c5 + 256 * (c6 + 256 * c7)))))) ∧ cnt 64 x = c0 + c1 + c2 + c3 + c4 + c5 + c6 + c7 := by
  refine ⟨cnt 8 x, cnt 8 (x / 256), cnt 8 (x / 256 / 256), cnt 8 (x / 256 / 256 / 256), cnt 8 (x / 256 / 256 / 256 / 256), cnt 8 (x / 256 / 256 / 256 / 256 / 256), cnt 8 (x / 256 / 256 / 256 / 256 / 256 / 256), cnt 8 (x / 256 / 256 / 256 / 256 / 256 / 256 / 256),
    cnt_le _ _, cnt_le _ _, cnt_le _ _, cnt_le _ _, cnt_le _ _, cnt_le _ _, cnt_le _ _, cnt_le _ _, ?_, ?_⟩
  · simp only [lanes, show (2 : Nat) ^ 8 = 256 from rfl, Nat.mul_zero, Nat.add_zero]
  · rw [show 64 = 8 + 56 from rfl, cnt_add 8 56, show 56 = 8 + 48 from rfl, cnt_add 8 48, show 48 = 8 + 40 from rfl, cnt_add 8 40, show 40 = 8 + 32 from rfl, cnt_add 8 32, show 32 = 8 + 24 from rfl, cnt_add 8 24, show 24 = 8 + 16 from rfl, cnt_add 8 16, show 16 = 8 + 8 from rfl, cnt_add 8 8]
    simp only [show (2 : Nat) ^ 8 = 256 from rfl]
    omega
/-- The last three sums, and the mask. -/
theorem stage4 (w x y z c0 c1 c2 c3 c4 c5 c6 c7 : Nat) (h0 : c0 ≤ 8) (h1 : c1 ≤ 8) (h2 : c2 ≤ 8) (h3 : c3 ≤ 8) (h4 : c4 ≤ 8) (h5 : c5 ≤ 8) (h6 : c6 ≤ 8) (h7 : c7 ≤ 8)
    (hw : w = c0 + 256 * (c1 + 256 * (c2 + 256 * (c3 + 256 * (c4 + 256 * (c5 + 256 * (c6 + 256 * c7))))))) (hx : x = w + w / 256) (hy : y = x + x / 65536) (hz : z = y + y / 4294967296) :
    w < 18446744073709551616 ∧ x < 18446744073709551616 ∧ y < 18446744073709551616 ∧ z < 18446744073709551616 ∧ z % 128 = c0 + c1 + c2 + c3 + c4 + c5 + c6 + c7 := by
  have e1 : w / 256 = c1 + 256 * (c2 + 256 * (c3 + 256 * (c4 + 256 * (c5 + 256 * (c6 + 256 * c7))))) := by omega
  have e2 : x = (c0 + c1) + 256 * ((c1 + c2) + 256 * ((c2 + c3) + 256 * ((c3 + c4) + 256 * ((c4 + c5) + 256 * ((c5 + c6) + 256 * ((c6 + c7) + 256 * c7)))))) := by omega
  have b0 : w < 18446744073709551616 := by omega
  clear e1 hw hx
  have e3 : x / 65536 = (c2 + c3) + 256 * ((c3 + c4) + 256 * ((c4 + c5) + 256 * ((c5 + c6) + 256 * ((c6 + c7) + 256 * c7)))) := by omega
  have e4 : y = (c0 + c1 + c2 + c3) + 256 * ((c1 + c2 + c3 + c4) + 256 * ((c2 + c3 + c4 + c5) + 256 * ((c3 + c4 + c5 + c6) + 256 * ((c4 + c5 + c6 + c7) + 256 * ((c5 + c6 + c7) + 256 * ((c6 + c7) + 256 * c7)))))) := by omega
  have b1 : x < 18446744073709551616 := by omega
  clear e2 e3 hy
  have e5 : y / 4294967296 = (c4 + c5 + c6 + c7) + 256 * ((c5 + c6 + c7) + 256 * ((c6 + c7) + 256 * c7)) := by omega
  have e6 : z = (c0 + c1 + c2 + c3 + c4 + c5 + c6 + c7) + 256 * ((c1 + c2 + c3 + c4 + c5 + c6 + c7) + 256 * ((c2 + c3 + c4 + c5 + c6 + c7) + 256 * ((c3 + c4 + c5 + c6 + c7) + 256 * ((c4 + c5 + c6 + c7) + 256 * ((c5 + c6 + c7) + 256 * ((c6 + c7) + 256 * c7)))))) := by omega
  have b2 : y < 18446744073709551616 := by omega
  clear e4 e5 hz
  exact ⟨b0, b1, b2, by omega, by omega⟩
end Go.Proofs.YtblnfngigdipcaaDoor.M
namespace Go.Proofs.YtblnfngigdipcaaDoor.M
open Go.RowKit Go.Proofs.YtblnfngigdipcaaDoor.P Go.Proofs.YtblnfngigdipcaaDoorW.PrintWords Go.Proofs.YtblnfngigdipcaaDoorW.PrintLast Go.Proofs.YtblnfngigdipcaaDoorW.PrintMore
theorem ones_fin : ∀ n : Fin 65, bits_ones.f (n.val : Int) = some ((2 : Int) ^ n.val - 1) := by decide +kernel
theorem ones_nat (n : Nat) (h : n ≤ 64) : bits_ones.f (n : Int) = some ((2 : Int) ^ n - 1) := ones_fin ⟨n, by omega⟩
/-- The lowest n bits. -/
def lowV (v n : Int) : Int := if n ≤ 0 then 0 else if 64 ≤ n then v else v % 2 ^ n.toNat
theorem clamp_le (n : Int) (h : n ≤ 0) : mn (mx n 0) 64 = ((0 : Nat) : Int) := by unfold mn mx; split <;> split <;> omega
theorem clamp_ge (n : Int) (h : 64 ≤ n) : mn (mx n 0) 64 = ((64 : Nat) : Int) := by unfold mn mx; split <;> split <;> omega
theorem clamp_in (n : Nat) (h : n ≤ 64) : mn (mx (n : Int) 0) 64 = (n : Int) := by unfold mn mx; split <;> split <;> omega
theorem low_nat (v : Int) (n : Nat) (h : n ≤ 64) (v0 : 0 ≤ v) (v1 : v < 18446744073709551616) (m : Int) (hm : mn (mx m 0) 64 = (n : Int)) : bits_Low.f v m = some (v % 2 ^ n) := by
  unfold bits_Low.f
  rw [hm, ones_nat n h]
  simp only [Option.bind_some]
  rw [and_ones_u64 v n h v0 v1]
theorem low_spec (v n : Int) (v0 : 0 ≤ v) (v1 : v < 18446744073709551616) : bits_Low.f v n = some (lowV v n) := by
  unfold lowV
  by_cases a : n ≤ 0
  · rw [if_pos a, low_nat v 0 (by decide) v0 v1 n (clamp_le n a), Int.pow_zero, Int.emod_one]
  · rw [if_neg a]
    by_cases b : 64 ≤ n
    · rw [if_pos b, low_nat v 64 (by decide) v0 v1 n (clamp_ge n b)]
      exact congrArg some (mod_64 v v0 v1)
    · rw [if_neg b]
      obtain ⟨m, rfl⟩ := Int.eq_ofNat_of_zero_le (show 0 ≤ n by omega)
      rw [low_nat v m (by omega) v0 v1 m (clamp_in m (by omega)), Int.toNat_natCast]
end Go.Proofs.YtblnfngigdipcaaDoor.M
namespace Go.Proofs.YtblnfngigdipcaaDoor.M
open Go.RowKit Go.Proofs.YtblnfngigdipcaaDoor.P Go.Proofs.YtblnfngigdipcaaDoorW.PrintWords Go.Proofs.YtblnfngigdipcaaDoorW.PrintLast Go.Proofs.YtblnfngigdipcaaDoorW.PrintMore
theorem cast_pow (n : Nat) : ((2 ^ n : Nat) : Int) = (2 : Int) ^ n := by simp
theorem nat_64 (n : Nat) (v : Nat) (h : n ≤ 64) (hv : v < 2 ^ n) : (v : Int) < 18446744073709551616 := by
  have := Nat.pow_le_pow_right (show 0 < 2 by decide) h
  have e : (2 : Nat) ^ 64 = 18446744073709551616 := by decide
  omega
def rotN (v r size : Nat) : Nat := 2 ^ (size - r) * (v % 2 ^ r) + v / 2 ^ r
theorem rot_hi (v r size : Nat) (hr : r ≤ size) (hv : v < 2 ^ size) : v / 2 ^ r < 2 ^ (size - r) := by
  apply Nat.div_lt_of_lt_mul
  rw [← Nat.pow_add, show r + (size - r) = size by omega]; exact hv
/-- The sizes. -/
def sizeB (size : Int) : Bool := size == 2 || size == 4 || size == 8 || size == 16 || size == 32 || size == 64
def rotV (v r size : Int) : Int × Int := if sizeB size = true ∧ 0 ≤ r ∧ r < size then (if v < 2 ^ size.toNat then (((rotN v.toNat r.toNat size.toNat : Nat) : Int), 0) else (0, 4)) else (0, 1)
theorem size_cases (size : Int) (h : sizeB size = true) : ∃ n : Nat, size = n ∧ 2 ≤ n ∧ n ≤ 64 := by
  simp only [sizeB, Bool.or_eq_true, beq_iff_eq] at h
  exact ⟨size.toNat, by omega, by omega, by omega⟩
theorem rotV_nat (v r size : Nat) (h : sizeB size = true) (hr : r < size) : rotV v r size = if v < 2 ^ size then (((rotN v r size : Nat) : Int), 0) else (0, 4) := by
  unfold rotV
  rw [if_pos ⟨h, by omega, by omega⟩]
  simp only [Int.toNat_natCast]
  rw [← cast_pow]
  by_cases c : v < 2 ^ size
  · rw [if_pos c, if_pos (by omega)]
  · rw [if_neg c, if_neg (by omega)]
theorem rotV_bad (v r size : Int) (h : ¬ (sizeB size = true ∧ 0 ≤ r ∧ r < size)) : rotV v r size = (0, 1) := by unfold rotV; rw [if_neg h]
theorem sh0 : shl .i64 2 0 = 2 := by decide +kernel
theorem sh1 : shl .i64 2 1 = 4 := by decide +kernel
theorem sh2 : shl .i64 2 2 = 8 := by decide +kernel
theorem sh3 : shl .i64 2 3 = 16 := by decide +kernel
theorem sh4 : shl .i64 2 4 = 32 := by decide +kernel
theorem sh5 : shl .i64 2 5 = 64 := by decide +kernel
theorem wr0 : wrap64 1 = 1 := by decide +kernel
theorem wr1 : wrap64 2 = 2 := by decide +kernel
theorem wr2 : wrap64 3 = 3 := by decide +kernel
theorem wr3 : wrap64 4 = 4 := by decide +kernel
theorem wr4 : wrap64 5 = 5 := by decide +kernel
theorem wr5 : wrap64 6 = 6 := by decide +kernel
theorem rot_open (k : Nat) (v r size : Int) : bits_Rotate.f (k + 7) v r size = if sizeB size = true then (if r < 0 then bits_Rotate.j1 k v r size true else bits_Rotate.j1 k v r size (decide (r ≥ size))) else bits_Rotate.j1 k v r size true := by
  unfold bits_Rotate.f sizeB
  by_cases a : size = 2
  · subst a; simp [bits_Rotate.l0, sh0, wr0, wr1, wr2, wr3, wr4, wr5]
  · by_cases b : size = 4
    · subst b; simp [bits_Rotate.l0, sh0, sh1, wr0, wr1, wr2, wr3, wr4, wr5]
    · by_cases c : size = 8
      · subst c; simp [bits_Rotate.l0, sh0, sh1, sh2, wr0, wr1, wr2, wr3, wr4, wr5]
      · by_cases d : size = 16
        · subst d; simp [bits_Rotate.l0, sh0, sh1, sh2, sh3, wr0, wr1, wr2, wr3, wr4, wr5]
        · by_cases e : size = 32
          · subst e; simp [bits_Rotate.l0, sh0, sh1, sh2, sh3, sh4, wr0, wr1, wr2, wr3, wr4, wr5]
          · by_cases f : size = 64
            · subst f; simp [bits_Rotate.l0, sh0, sh1, sh2, sh3, sh4, sh5, wr0, wr1, wr2, wr3, wr4, wr5]
            · simp [bits_Rotate.l0, sh0, sh1, sh2, sh3, sh4, sh5, wr0, wr1, wr2, wr3, wr4, wr5, a, b, c, d, e, f]
theorem rot_or (v r size : Nat) (hs : size ≤ 64) (hr : r < size) (hv : v < 2 ^ size) : (v / 2 ^ r ||| v * 2 ^ (size - r) % 2 ^ 64) % 2 ^ size = rotN v r size := by
  have h1 := rot_hi v r size (by omega) hv
  have hsm : 2 ^ (size - r) ≤ 2 ^ size := Nat.pow_le_pow_right (by decide) (by omega)
  have e : v * 2 ^ (size - r) % 2 ^ 64 % 2 ^ size = 2 ^ (size - r) * (v % 2 ^ r) := by
    rw [Nat.mod_mod_of_dvd _ (Nat.pow_dvd_pow 2 hs), Nat.mul_comm, show (2 : Nat) ^ size = 2 ^ (size - r) * 2 ^ r by rw [← Nat.pow_add, show size - r + r = size by omega], Nat.mul_mod_mul_left]
  rw [Nat.or_mod_two_pow, e, Nat.mod_eq_of_lt (by omega), Nat.or_comm]
  exact nat_join (size - r) _ _ (Nat.mul_mod_right _ _) h1
theorem rot_spec (k : Nat) (v r size : Int) (hk : 200 ≤ k) (v0 : 0 ≤ v) (v1 : v < 18446744073709551616) : bits_Rotate.f k v r size = some (rotV v r size) := by
  obtain ⟨v, rfl⟩ := Int.eq_ofNat_of_zero_le v0
  obtain ⟨k, rfl⟩ : ∃ m, k = m + 8 := ⟨k - 8, by omega⟩
  rw [rot_open (k + 1)]
  by_cases hs : sizeB size = true
  · rw [if_pos hs]
    obtain ⟨n, rfl, n0, n1⟩ := size_cases size hs
    by_cases a : r < 0
    · rw [if_pos a, rotV_bad _ _ _ (by omega)]; rfl
    · rw [if_neg a]
      by_cases b : r < (n : Int)
      · obtain ⟨r, rfl⟩ := Int.eq_ofNat_of_zero_le (show 0 ≤ r by omega)
        rw [rotV_nat v r n hs (by omega), show decide ((r : Int) ≥ n) = false from decide_eq_false (by omega)]
        simp only [bits_Rotate.j1]
        rw [if_neg (by decide), ones_nat n n1]
        simp only [Option.bind_some, ← cast_pow]
        by_cases c : v < 2 ^ n
        · have h64 : v < 18446744073709551616 := by omega
          have hd : v / 2 ^ r ≤ v := Nat.div_le_self _ _
          have e64 : (2 : Nat) ^ 64 = 18446744073709551616 := by decide
          have hm : v * 2 ^ (n - r) % 2 ^ 64 < 2 ^ 64 := Nat.mod_lt _ (by decide)
          have ho : v / 2 ^ r ||| v * 2 ^ (n - r) % 2 ^ 64 < 2 ^ 64 := Nat.or_lt_two_pow (by omega) hm
          rw [if_neg (by omega), if_pos (by omega), wrap64_self ((n : Int) - r) (by omega) (by omega), if_pos (by omega), shr_nat _ _ _ (by simp [IntKind.bits]; omega),
            show (n : Int) - r = ((n - r : Nat) : Int) by omega, shl_nat _ _ _ (by simp [IntKind.bits]; omega), IntKind.wrap_u64,
            show (v : Int) / 2 ^ r = ((v / 2 ^ r : Nat) : Int) by simp, show (v : Int) * 2 ^ (n - r) % 18446744073709551616 = ((v * 2 ^ (n - r) % 2 ^ 64 : Nat) : Int) by rw [e64]; simp,
            u64_or_nat _ _ (Nat.lt_of_le_of_lt hd h64) (by rw [← e64]; exact hm)]
          rw [low_spec _ _ (Int.natCast_nonneg _) (nat_64 64 _ (Nat.le_refl _) ho), if_pos c]
          simp only [Option.bind_some, lowV]
          rw [if_neg (by omega)]
          by_cases d : 64 ≤ (n : Int)
          · obtain rfl : n = 64 := by omega
            have := rot_or v r 64 n1 (by omega) c
            rw [Nat.mod_eq_of_lt ho] at this
            rw [if_pos d, this]
          · rw [if_neg d, Int.toNat_natCast, ← cast_pow, ← rot_or v r n n1 (by omega) c]
            simp
        · rw [if_pos (by have := Nat.two_pow_pos n; omega), if_neg c]
      · rw [show decide (r ≥ (n : Int)) = true from decide_eq_true (by omega), rotV_bad _ _ _ (by omega)]; rfl
  · rw [if_neg hs, rotV_bad _ _ _ (fun h => hs h.1)]; rfl
end Go.Proofs.YtblnfngigdipcaaDoor.M
namespace Go.Proofs.YtblnfngigdipcaaDoor.M
open Go.RowKit Go.Proofs.YtblnfngigdipcaaDoor.P Go.Proofs.YtblnfngigdipcaaDoorW.PrintWords Go.Proofs.YtblnfngigdipcaaDoorW.PrintLast Go.Proofs.YtblnfngigdipcaaDoorW.PrintMore
/-- A number of size bits, again and again in 64. -/
def rep (x size : Nat) : Nat := x * ((2 ^ 64 - 1) / (2 ^ size - 1))
/-- The sizes. -/
def Sz (s : Nat) : Prop := s = 2 ∨ s = 4 ∨ s = 8 ∨ s = 16 ∨ s = 32 ∨ s = 64
theorem Sz.le {s : Nat} (h : Sz s) : s ≤ 64 := by unfold Sz at h; omega
theorem Sz.pos {s : Nat} (h : Sz s) : 2 ≤ s := by unfold Sz at h; omega
theorem Sz.sizeB {s : Nat} (h : Sz s) : sizeB (s : Int) = true := by rcases h with rfl | rfl | rfl | rfl | rfl | rfl <;> decide
theorem bits_or_nat (a b : Nat) (ha : a < 2 ^ 64) (hb : b < 2 ^ 64) : Go.bits .or .u64 (a : Int) (b : Int) = ((a ||| b : Nat) : Int) := by
  have hx : a ||| b < 2 ^ 64 := Nat.or_lt_two_pow ha hb
  have h1 : (BitVec.ofInt 64 (a : Int)).toNat = a := by
    rw [BitVec.ofInt_natCast, BitVec.toNat_ofNat]; exact Nat.mod_eq_of_lt ha
  have h2 : (BitVec.ofInt 64 (b : Int)).toNat = b := by
    rw [BitVec.ofInt_natCast, BitVec.toNat_ofNat]; exact Nat.mod_eq_of_lt hb
  show IntKind.u64.wrap ((BitVec.ofInt 64 (a : Int) ||| BitVec.ofInt 64 (b : Int)).toNat : Int) = _
  rw [BitVec.toNat_or, h1, h2, IntKind.wrap_u64]
  have e : (2 : Nat) ^ 64 = 18446744073709551616 := by decide
  omega
theorem or_dbl (v s : Nat) (h : v < 2 ^ s) : v ||| v * 2 ^ s = v * (2 ^ s + 1) := by
  rw [Nat.or_comm, Nat.mul_comm v, ← Nat.two_pow_add_eq_or_of_lt h, Nat.mul_add, Nat.mul_one, Nat.mul_comm v]
theorem dbl_lt (v s : Nat) (h : v < 2 ^ s) : v * (2 ^ s + 1) < 2 ^ (2 * s) := by
  have e : (2 : Nat) ^ (2 * s) = 2 ^ s * 2 ^ s := by rw [Nat.two_mul, Nat.pow_add]
  rw [e, Nat.mul_add, Nat.mul_one]
  have : (v + 1) * 2 ^ s ≤ 2 ^ s * 2 ^ s := Nat.mul_le_mul_right _ h
  rw [Nat.add_mul, Nat.one_mul] at this
  omega
theorem again_step (k v s : Nat) (h : v < 2 ^ s) (hs : 2 * s ≤ 64) : mask_again.l0 (k + 1) (v : Int) (s : Int) = mask_again.l0 k ((v * (2 ^ s + 1) : Nat) : Int) ((2 * s : Nat) : Int) := by
  have h1 := dbl_lt v s h
  have h2 : (2 : Nat) ^ (2 * s) ≤ 2 ^ 64 := Nat.pow_le_pow_right (by decide) hs
  have h3 : v * 2 ^ s ≤ v * (2 ^ s + 1) := Nat.mul_le_mul_left _ (by omega)
  have h4 : v * 1 ≤ v * (2 ^ s + 1) := Nat.mul_le_mul_left _ (by omega)
  have e64 : (2 : Nat) ^ 64 = 18446744073709551616 := by decide
  simp only [mask_again.l0]
  rw [if_pos (by omega), if_pos (by omega), shl_nat _ _ _ (by show s ≤ 64; omega), ← cast_pow, ← Int.natCast_mul, u64_self _ (by omega) (by omega), bits_or_nat _ _ (by omega) (by omega), or_dbl v s h, wrap64_self _ (by omega) (by omega)]
  congr 1
  omega
theorem again_end (k : Nat) (v : Int) : mask_again.l0 (k + 1) v 64 = some v := by
  simp only [mask_again.l0]
  rw [if_neg (by decide)]
theorem rep64 (v : Nat) : rep v 64 = v := by unfold rep; rw [show (2 ^ 64 - 1) / (2 ^ 64 - 1) = 1 by decide, Nat.mul_one]
theorem rep32 (v : Nat) : rep v 32 = rep (v * (2 ^ 32 + 1)) 64 := by unfold rep; rw [Nat.mul_assoc]
theorem rep16 (v : Nat) : rep v 16 = rep (v * (2 ^ 16 + 1)) 32 := by unfold rep; rw [Nat.mul_assoc]
theorem rep8 (v : Nat) : rep v 8 = rep (v * (2 ^ 8 + 1)) 16 := by unfold rep; rw [Nat.mul_assoc]
theorem rep4 (v : Nat) : rep v 4 = rep (v * (2 ^ 4 + 1)) 8 := by unfold rep; rw [Nat.mul_assoc]
theorem rep2 (v : Nat) : rep v 2 = rep (v * (2 ^ 2 + 1)) 4 := by unfold rep; rw [Nat.mul_assoc]
theorem ag64 (k v : Nat) (_ : v < 2 ^ 64) : mask_again.l0 (k + 1) (v : Int) 64 = some ((rep v 64 : Nat) : Int) := by rw [rep64]; exact again_end k v
theorem ag32 (k v : Nat) (h : v < 2 ^ 32) : mask_again.l0 (k + 2) (v : Int) 32 = some ((rep v 32 : Nat) : Int) := by rw [rep32]; exact (again_step (k + 1) v 32 h (by decide)).trans (ag64 k _ (dbl_lt v 32 h))
theorem ag16 (k v : Nat) (h : v < 2 ^ 16) : mask_again.l0 (k + 3) (v : Int) 16 = some ((rep v 16 : Nat) : Int) := by rw [rep16]; exact (again_step (k + 2) v 16 h (by decide)).trans (ag32 k _ (dbl_lt v 16 h))
theorem ag8 (k v : Nat) (h : v < 2 ^ 8) : mask_again.l0 (k + 4) (v : Int) 8 = some ((rep v 8 : Nat) : Int) := by rw [rep8]; exact (again_step (k + 3) v 8 h (by decide)).trans (ag16 k _ (dbl_lt v 8 h))
theorem ag4 (k v : Nat) (h : v < 2 ^ 4) : mask_again.l0 (k + 5) (v : Int) 4 = some ((rep v 4 : Nat) : Int) := by rw [rep4]; exact (again_step (k + 4) v 4 h (by decide)).trans (ag8 k _ (dbl_lt v 4 h))
theorem ag2 (k v : Nat) (h : v < 2 ^ 2) : mask_again.l0 (k + 6) (v : Int) 2 = some ((rep v 2 : Nat) : Int) := by rw [rep2]; exact (again_step (k + 5) v 2 h (by decide)).trans (ag4 k _ (dbl_lt v 2 h))
theorem again_spec (k v s : Nat) (hk : 6 ≤ k) (hs : Sz s) (h : v < 2 ^ s) : mask_again.f k (v : Int) (s : Int) = some ((rep v s : Nat) : Int) := by
  unfold mask_again.f
  rcases hs with rfl | rfl | rfl | rfl | rfl | rfl
  · obtain ⟨m, rfl⟩ : ∃ m, k = m + 6 := ⟨k - 6, by omega⟩; exact ag2 m v h
  · obtain ⟨m, rfl⟩ : ∃ m, k = m + 5 := ⟨k - 5, by omega⟩; exact ag4 m v h
  · obtain ⟨m, rfl⟩ : ∃ m, k = m + 4 := ⟨k - 4, by omega⟩; exact ag8 m v h
  · obtain ⟨m, rfl⟩ : ∃ m, k = m + 3 := ⟨k - 3, by omega⟩; exact ag16 m v h
  · obtain ⟨m, rfl⟩ : ∃ m, k = m + 2 := ⟨k - 2, by omega⟩; exact ag32 m v h
  · obtain ⟨m, rfl⟩ : ∃ m, k = m + 1 := ⟨k - 1, by omega⟩; exact ag64 m v h
end Go.Proofs.YtblnfngigdipcaaDoor.M
namespace Go.Proofs.YtblnfngigdipcaaDoor.M
open Go.RowKit Go.Proofs.YtblnfngigdipcaaDoor.P Go.Proofs.YtblnfngigdipcaaDoorW.PrintWords Go.Proofs.YtblnfngigdipcaaDoorW.PrintLast Go.Proofs.YtblnfngigdipcaaDoorW.PrintMore
/-- Is a number its lowest s bits again and again? -/
def isRep (v s : Nat) : Bool := rep (v % 2 ^ s) s == v
/-- The size of a number. -/
def sizeV (v : Nat) : Nat := if isRep v 2 then 2 else if isRep v 4 then 4 else if isRep v 8 then 8 else if isRep v 16 then 16 else if isRep v 32 then 32 else 64
theorem sizeV_sz (v : Nat) : Sz (sizeV v) := by unfold sizeV Sz; (repeat' split) <;> simp
theorem isRep64 (v : Nat) (h : v < 2 ^ 64) : isRep v 64 = true := by unfold isRep; rw [rep64, Nat.mod_eq_of_lt h]; exact beq_self_eq_true v
theorem low_sz (v s : Nat) (hs : Sz s) (h : v < 2 ^ 64) : bits_Low.f (v : Int) (s : Int) = some ((v % 2 ^ s : Nat) : Int) := by
  have e64 : (2 : Nat) ^ 64 = 18446744073709551616 := by decide
  rw [low_nat (v : Int) s hs.le (by omega) (by omega) _ (clamp_in s hs.le), Int.natCast_emod, cast_pow]
theorem ask_spec (k v s : Nat) (hk : 6 ≤ k) (hs : Sz s) (h : v < 2 ^ 64) : mask_ask.f k (v : Int) (s : Int) = some (isRep v s) := by
  unfold mask_ask.f isRep
  rw [low_sz v s hs h]
  simp only [Option.bind_some]
  rw [again_spec k _ s hk hs (Nat.mod_lt _ (Nat.two_pow_pos s))]
  simp only [Option.bind_some]
  congr 1
  rw [Bool.eq_iff_iff, beq_iff_eq, beq_iff_eq]
  omega
theorem size_spec (k v : Nat) (hk : 6 ≤ k) (h : v < 2 ^ 64) : mask_Size.f k (v : Int) = some ((sizeV v : Nat) : Int) := by
  have a2 : mask_ask.f k (v : Int) 2 = some (isRep v 2) := ask_spec k v 2 hk (by simp [Sz]) h
  have a4 : mask_ask.f k (v : Int) 4 = some (isRep v 4) := ask_spec k v 4 hk (by simp [Sz]) h
  have a8 : mask_ask.f k (v : Int) 8 = some (isRep v 8) := ask_spec k v 8 hk (by simp [Sz]) h
  have a16 : mask_ask.f k (v : Int) 16 = some (isRep v 16) := ask_spec k v 16 hk (by simp [Sz]) h
  have a32 : mask_ask.f k (v : Int) 32 = some (isRep v 32) := ask_spec k v 32 hk (by simp [Sz]) h
  have a64 : mask_ask.f k (v : Int) 64 = some (isRep v 64) := ask_spec k v 64 hk (by simp [Sz]) h
  rw [isRep64 v h] at a64
  unfold mask_Size.f mask_sizes.f sizeV
  rw [a2, Option.bind_some]
  split
  · rfl
  rw [a4, Option.bind_some]
  split
  · rfl
  rw [a8, Option.bind_some]
  split
  · rfl
  rw [a16, Option.bind_some]
  split
  · rfl
  rw [a32, Option.bind_some]
  split
  · rfl
  rw [a64, Option.bind_some]
  rfl
end Go.Proofs.YtblnfngigdipcaaDoor.M
namespace Go.Proofs.YtblnfngigdipcaaDoor.M
open Go.RowKit Go.Proofs.YtblnfngigdipcaaDoor.P Go.Proofs.YtblnfngigdipcaaDoorW.PrintWords Go.Proofs.YtblnfngigdipcaaDoorW.PrintLast Go.Proofs.YtblnfngigdipcaaDoorW.PrintMore
theorem m1_32 : m1 32 = 6148914691236517205 := by decide +kernel
theorem m2_16 : m2 16 = 3689348814741910323 := by decide +kernel
theorem m3_8 : m3 8 = 1085102592571150095 := by decide +kernel
theorem and127_i64 (f : Nat) (h : f < 18446744073709551616) : Go.bits .and .i64 (wrap64 (f : Int)) 127 = ((f % 128 : Nat) : Int) := by
  have h1 : (BitVec.ofInt 64 (wrap64 (f : Int))).toNat = f := by
    rw [BitVec.toNat_ofInt]; unfold wrap64
    rw [show (((2 ^ 64 : Nat)) : Int) = 18446744073709551616 by decide]
    omega
  have h2 : (BitVec.ofInt 64 127).toNat = 127 := by decide
  show IntKind.i64.wrap ((BitVec.ofInt 64 (wrap64 (f : Int)) &&& BitVec.ofInt 64 127).toNat : Int) = _
  rw [BitVec.toNat_and, h1, h2, and127]
  have : f % 128 < 128 := Nat.mod_lt _ (by decide)
  rw [IntKind.wrap_i64]
  omega
theorem sum_step (c n : Nat) (h : c + c / n < 18446744073709551616) : IntKind.u64.wrap ((c : Int) + (c : Int) / (n : Int)) = ((c + c / n : Nat) : Int) := by
  have e : (c : Int) / (n : Int) = ((c / n : Nat) : Int) := (Int.natCast_ediv c n).symm
  rw [e]
  generalize c / n = q at *
  rw [u64_self _ (by omega) (by omega)]
  omega
theorem ones64_spec (x : Nat) (h : x < 2 ^ 64) : bits_OnesCount64.f (x : Int) = some ((cnt 64 x : Nat) : Int) := by
  have e64 : (2 : Nat) ^ 64 = 18446744073709551616 := by decide
  rw [e64] at h
  have s1 := stage1 32 x
  have s2 := stage2 16 x
  have s3 := stage3 8 x
  rw [m1_32] at s1
  rw [m2_16] at s2
  rw [m3_8] at s3
  have hA : IntKind.u64.wrap ((Go.bits .and .u64 ((x : Int) / 2) 6148914691236517205) + (Go.bits .and .u64 (x : Int) 6148914691236517205)) = ((lanes 2 32 x : Nat) : Int) := by
    have b1 : x / 2 &&& 6148914691236517205 ≤ 6148914691236517205 := Nat.and_le_right
    have b2 : x &&& 6148914691236517205 ≤ 6148914691236517205 := Nat.and_le_right
    rw [show (x : Int) / 2 = ((x / 2 : Nat) : Int) by omega, show (6148914691236517205 : Int) = ((6148914691236517205 : Nat) : Int) from rfl, tz_bits_and _ _ (by omega) (by omega), tz_bits_and _ _ (by omega) (by omega), ← s1, u64_self _ (by omega) (by omega)]
    omega
  have bA : lanes 2 32 x ≤ 12297829382473034410 := by
    have b1 : x / 2 &&& 6148914691236517205 ≤ 6148914691236517205 := Nat.and_le_right
    have b2 : x &&& 6148914691236517205 ≤ 6148914691236517205 := Nat.and_le_right
    omega
  have hB : IntKind.u64.wrap ((Go.bits .and .u64 (((lanes 2 32 x : Nat) : Int) / 4) 3689348814741910323) + (Go.bits .and .u64 ((lanes 2 32 x : Nat) : Int) 3689348814741910323)) = ((lanes 4 16 x : Nat) : Int) := by
    have b1 : lanes 2 32 x / 4 &&& 3689348814741910323 ≤ 3689348814741910323 := Nat.and_le_right
    have b2 : lanes 2 32 x &&& 3689348814741910323 ≤ 3689348814741910323 := Nat.and_le_right
    have s2' : (lanes 2 32 x / 4 &&& 3689348814741910323) + (lanes 2 32 x &&& 3689348814741910323) = lanes 4 16 x := s2
    rw [show ((lanes 2 32 x : Nat) : Int) / 4 = ((lanes 2 32 x / 4 : Nat) : Int) by omega, show (3689348814741910323 : Int) = ((3689348814741910323 : Nat) : Int) from rfl, tz_bits_and _ _ (by omega) (by omega), tz_bits_and _ _ (by omega) (by omega), ← s2', u64_self _ (by omega) (by omega)]
    omega
  have bB : lanes 4 16 x ≤ 7378697629483820646 := by
    have b1 : lanes 2 32 x / 4 &&& 3689348814741910323 ≤ 3689348814741910323 := Nat.and_le_right
    have b2 : lanes 2 32 x &&& 3689348814741910323 ≤ 3689348814741910323 := Nat.and_le_right
    have s2' : (lanes 2 32 x / 4 &&& 3689348814741910323) + (lanes 2 32 x &&& 3689348814741910323) = lanes 4 16 x := s2
    omega
  have hC : Go.bits .and .u64 (IntKind.u64.wrap (((lanes 4 16 x : Nat) : Int) / 16 + ((lanes 4 16 x : Nat) : Int))) 1085102592571150095 = ((lanes 8 8 x : Nat) : Int) := by
    have s3' : (lanes 4 16 x / 16 + lanes 4 16 x) &&& 1085102592571150095 = lanes 8 8 x := s3
    rw [u64_self _ (by omega) (by omega), show ((lanes 4 16 x : Nat) : Int) / 16 + ((lanes 4 16 x : Nat) : Int) = ((lanes 4 16 x / 16 + lanes 4 16 x : Nat) : Int) by omega, show (1085102592571150095 : Int) = ((1085102592571150095 : Nat) : Int) from rfl, tz_bits_and _ _ (by omega) (by omega), s3']
  obtain ⟨c0, c1, c2, c3, c4, c5, c6, c7, h0, h1, h2, h3, h4, h5, h6, h7, hl, hcnt⟩ := lanes8 x
  obtain ⟨q0, q1, q2, q3, q4⟩ := stage4 _ _ _ _ c0 c1 c2 c3 c4 c5 c6 c7 h0 h1 h2 h3 h4 h5 h6 h7 hl rfl rfl rfl
  unfold bits_OnesCount64.f
  rw [hA, hB, hC, hcnt]
  generalize lanes 8 8 x = c at *
  clear hcnt hC hl s1 s2 s3 hA hB bA bB h0 h1 h2 h3 h4 h5 h6 h7
  have eD : IntKind.u64.wrap ((c : Int) + (c : Int) / 256) = ((c + c / 256 : Nat) : Int) := sum_step c 256 q1
  rw [eD]
  generalize c + c / 256 = d at *
  have eE : IntKind.u64.wrap ((d : Int) + (d : Int) / 65536) = ((d + d / 65536 : Nat) : Int) := sum_step d 65536 q2
  rw [eE]
  generalize d + d / 65536 = e at *
  have eF : IntKind.u64.wrap ((e : Int) + (e : Int) / 4294967296) = ((e + e / 4294967296 : Nat) : Int) := sum_step e 4294967296 q3
  rw [eF, and127_i64 _ q3, q4]
theorem mask_ones_spec (x : Nat) (h : x < 2 ^ 64) : mask_Ones.f (x : Int) = some ((cnt 64 x : Nat) : Int) := by
  unfold mask_Ones.f
  rw [ones64_spec x h, Option.bind_some]
end Go.Proofs.YtblnfngigdipcaaDoor.M
namespace Go.Proofs.YtblnfngigdipcaaDoor.M
open Go.RowKit Go.Proofs.YtblnfngigdipcaaDoor.P Go.Proofs.YtblnfngigdipcaaDoorW.PrintWords Go.Proofs.YtblnfngigdipcaaDoorW.PrintLast Go.Proofs.YtblnfngigdipcaaDoorW.PrintMore
theorem full_fin : ∀ n : Fin 65, bits_Low.f 18446744073709551615 (n.val : Int) = some ((2 ^ n.val - 1 : Nat) : Int) := by decide +kernel
theorem full_low (o : Nat) (h : o ≤ 64) : bits_Low.f 18446744073709551615 (o : Int) = some ((2 ^ o - 1 : Nat) : Int) := full_fin ⟨o, by omega⟩
set_option maxRecDepth 100000 in
theorem len_some (k : Nat) (x x2 : Int) : ∃ r, bits_Len64.j0 (k + 1) x x2 = some r := by
  rw [bits_Len64.j0]
  repeat' split
  all_goals first | exact ⟨_, rfl⟩ | (exfalso; omega)
theorem lz_some (k : Nat) (x : Int) : ∃ r, bits_LeadingZeros64.f (k + 1) x = some r := by
  have hl : ∃ r, bits_Len64.f (k + 1) x = some r := by
    unfold bits_Len64.f
    split
    · exact len_some k _ _
    · exact len_some k _ _
  obtain ⟨r, hr⟩ := hl
  unfold bits_LeadingZeros64.f
  rw [hr, Option.bind_some]
  exact ⟨_, rfl⟩
theorem cnt_zero : ∀ n, cnt n 0 = 0
  | 0 => rfl
  | n + 1 => by unfold cnt; rw [Nat.zero_mod, Nat.zero_div, cnt_zero n]
theorem cnt_low (s x : Nat) (hs : s ≤ 64) (hx : x < 2 ^ s) : cnt 64 x = cnt s x := by
  obtain ⟨d, hd⟩ : ∃ d, 64 = s + d := ⟨64 - s, by omega⟩
  rw [hd, cnt_add, Nat.div_eq_of_lt hx, cnt_zero, Nat.add_zero]
end Go.Proofs.YtblnfngigdipcaaDoor.M
namespace Go.Proofs.YtblnfngigdipcaaDoor.M
open Go.RowKit Go.Proofs.YtblnfngigdipcaaDoor.P Go.Proofs.YtblnfngigdipcaaDoorW.PrintWords Go.Proofs.YtblnfngigdipcaaDoorW.PrintLast Go.Proofs.YtblnfngigdipcaaDoorW.PrintMore
end Go.Proofs.YtblnfngigdipcaaDoor.M
namespace Go.Proofs.YtblnfngigdipcaaDoor.M
open Go.RowKit Go.Proofs.YtblnfngigdipcaaDoor.P Go.Proofs.YtblnfngigdipcaaDoorW.PrintWords Go.Proofs.YtblnfngigdipcaaDoorW.PrintLast Go.Proofs.YtblnfngigdipcaaDoorW.PrintMore
end Go.Proofs.YtblnfngigdipcaaDoor.M
namespace Go.Proofs.YtblnfngigdipcaaDoor.M
open Go.RowKit Go.Proofs.YtblnfngigdipcaaDoor.P Go.Proofs.YtblnfngigdipcaaDoorW.PrintWords Go.Proofs.YtblnfngigdipcaaDoorW.PrintLast Go.Proofs.YtblnfngigdipcaaDoorW.PrintMore
end Go.Proofs.YtblnfngigdipcaaDoor.M
namespace Go.Proofs.YtblnfngigdipcaaDoor.M
open Go.RowKit Go.Proofs.YtblnfngigdipcaaDoor.P Go.Proofs.YtblnfngigdipcaaDoorW.PrintWords Go.Proofs.YtblnfngigdipcaaDoorW.PrintLast Go.Proofs.YtblnfngigdipcaaDoorW.PrintMore
end Go.Proofs.YtblnfngigdipcaaDoor.M
namespace Go.Proofs.YtblnfngigdipcaaDoor.M
open Go.RowKit Go.Proofs.YtblnfngigdipcaaDoor.P Go.Proofs.YtblnfngigdipcaaDoorW.PrintWords Go.Proofs.YtblnfngigdipcaaDoorW.PrintLast Go.Proofs.YtblnfngigdipcaaDoorW.PrintMore
end Go.Proofs.YtblnfngigdipcaaDoor.M
namespace Go.Proofs.YtblnfngigdipcaaDoor.M
open Go.RowKit Go.Proofs.YtblnfngigdipcaaDoor.P Go.Proofs.YtblnfngigdipcaaDoorW.PrintWords Go.Proofs.YtblnfngigdipcaaDoorW.PrintLast Go.Proofs.YtblnfngigdipcaaDoorW.PrintMore
end Go.Proofs.YtblnfngigdipcaaDoor.M
namespace Go.Proofs.YtblnfngigdipcaaDoor.M
open Go.RowKit Go.Proofs.YtblnfngigdipcaaDoor.P Go.Proofs.YtblnfngigdipcaaDoorW.PrintWords Go.Proofs.YtblnfngigdipcaaDoorW.PrintLast Go.Proofs.YtblnfngigdipcaaDoorW.PrintMore
end Go.Proofs.YtblnfngigdipcaaDoor.M
