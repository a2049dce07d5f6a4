/- Sums: what the document's Add, Sub, Of and Holds tell: just what flag's own functions do (chapter 3). -/
import Derived.Test.YtclomjndhcpmfaaMFlag
import Derived.Test.YtclomjndhcpmfaaMShift
import Derived.Test.YtclomjndhcpmfaaPx3
import Derived.Test.YtclomjndhcpmfaaPx3
import Derived.Test.YtclomjndhcpmfaaPx4
namespace Go.Proofs.Ytclomjndhcpmfaa.M
open Go.RowKit Go.Proofs.Ytclomjndhcpmfaa.P Go.Proofs.YtclomjndhcpmfaaW.PrintWords Go.Proofs.YtclomjndhcpmfaaW.PrintLast Go.Proofs.YtclomjndhcpmfaaW.PrintMore

def part (A B c i : Nat) : Nat := A % 2 ^ i + B % 2 ^ i + c
def carryAt (A B c i : Nat) : Bool := decide (part A B c i / 2 ^ i = 1)
theorem part_succ (A B c i : Nat) : part A B c (i + 1) = part A B c i + ((if A.testBit i then 1 else 0) + (if B.testBit i then 1 else 0)) * 2 ^ i := by
  unfold part
  rw [mod_succ A i, mod_succ B i, Nat.add_mul]
  cases A.testBit i <;> cases B.testBit i <;> simp <;> omega
theorem part_lt (A B c i : Nat) (hc : c ≤ 1) : part A B c i < 2 * 2 ^ i := by
  unfold part
  have h1 := Nat.mod_lt A (Nat.two_pow_pos i)
  have h2 := Nat.mod_lt B (Nat.two_pow_pos i)
  omega
theorem bit_step (A B c i : Nat) (hc : c ≤ 1) (n : Nat) (hn : n = (if A.testBit i then 1 else 0) + (if B.testBit i then 1 else 0) + (if carryAt A B c i then 1 else 0)) :
    part A B c (i + 1) % 2 ^ (i + 1) = part A B c i % 2 ^ i + (if n % 2 = 1 then 2 ^ i else 0) ∧ carryAt A B c (i + 1) = decide (2 ≤ n) := by
  have hp := Nat.two_pow_pos i
  have hl := part_lt A B c i hc
  have hs := part_succ A B c i
  have hd := Nat.div_add_mod (part A B c i) (2 ^ i)
  have hm := Nat.mod_lt (part A B c i) hp
  have hq : part A B c i / 2 ^ i = if carryAt A B c i then 1 else 0 := by
    have : part A B c i / 2 ^ i < 2 := Nat.div_lt_of_lt_mul (by rw [Nat.mul_comm]; exact hl)
    unfold carryAt
    clear hd
    generalize part A B c i / 2 ^ i = q at *
    by_cases e : q = 1
    · simp [e]
    · have : q = 0 := by omega
      simp [this]
  rw [hq] at hd
  generalize part A B c i % 2 ^ i = r at *
  have ht : part A B c (i + 1) = r + n * 2 ^ i := by
    rw [hs, hn, ← hd]
    cases carryAt A B c i <;> cases A.testBit i <;> cases B.testBit i <;> simp <;> omega
  have hn3 : n ≤ 3 := by rw [hn]; split <;> split <;> split <;> omega
  have h2 : (2 : Nat) ^ (i + 1) = 2 * 2 ^ i := by rw [Nat.pow_succ, Nat.mul_comm]
  have hcase : n = 0 ∨ n = 1 ∨ n = 2 ∨ n = 3 := by omega
  constructor
  · rw [ht, h2]
    generalize 2 ^ i = P at *
    rcases hcase with h | h | h | h <;> rw [h] <;> simp
    · exact Nat.mod_eq_of_lt (by omega)
    · exact Nat.mod_eq_of_lt (by omega)
    · exact Nat.mod_eq_of_lt (by omega)
    · rw [show r + 3 * P = r + P + 2 * P by omega, Nat.add_mod_right]; exact Nat.mod_eq_of_lt (by omega)
  · unfold carryAt
    rw [ht, h2, decide_eq_decide]
    generalize 2 ^ i = P at *
    rcases hcase with h | h | h | h <;> rw [h] <;> simp
    · rw [Nat.div_eq_of_lt (by omega)]; decide
    · rw [Nat.div_eq_of_lt (by omega)]; decide
    · apply Nat.div_eq_of_lt_le <;> omega
    · apply Nat.div_eq_of_lt_le <;> omega

theorem add_round (k A B i : Nat) (hk : 70 ≤ k) (hA : A < 2 ^ 64) (hB : B < 2 ^ 64) (hi : i ≤ 63) (carry last : Bool) (X : Int) (R : Option (Int × Bool × Bool × Bool × Bool))
    (wx : IntKind.u64.wrap (X + 2 ^ i) = X + 2 ^ i)
    (hnext : ∀ n : Nat, n = (if A.testBit i then 1 else 0) + (if B.testBit i then 1 else 0) + (if carry then 1 else 0) → cleatref03_Add.l0 k A B (decide (2 ≤ n)) (X + (if n % 2 = 1 then (2 : Int) ^ i else 0)) carry ((i : Int) + 1) = R) :
    cleatref03_Add.l0 (k + 3) A B carry X last i = R := by
  have hpow := power_nat k i hk hi
  have ba := bit_testBit (k + 2) A i (by omega) hi hA
  have bb := bit_testBit (k + 1) B i (by omega) hi hB
  have wi := wrap64_self ((i : Int) + 1) (by omega) (by omega)
  have h := hnext _ rfl
  rw [cleatref03_Add.l0, if_pos (by omega), ba, Option.bind_some]
  cases ha : A.testBit i <;> cases hb : B.testBit i <;> cases carry <;> rw [ha, hb] at h <;> rw [hb] at bb <;> simp at h <;>
    simp [cleatref03_Add.j1, cleatref03_Add.j2, bb, hpow, wr0, wr1, wr2, wx, wi, h]
theorem ref_add_loop (A B c : Nat) (hA : A < 2 ^ 64) (hB : B < 2 ^ 64) (hc : c ≤ 1) : ∀ (d i k : Nat) (last : Bool), i + d = 64 → 80 + 3 * d ≤ k → 1 ≤ d →
    cleatref03_Add.l0 k A B (carryAt A B c i) ((part A B c i % 2 ^ i : Nat) : Int) last i =
      some (((part A B c 64 % 2 ^ 64 : Nat) : Int), (part A B c 64 % 2 ^ 64).testBit 63, ((part A B c 64 % 2 ^ 64 : Nat) : Int) == 0, carryAt A B c 64, carryAt A B c 64 != carryAt A B c 63) := by
  have last_round : ∀ (k : Nat) (last : Bool), 80 ≤ k → cleatref03_Add.l0 k A B (carryAt A B c 64) ((part A B c 64 % 2 ^ 64 : Nat) : Int) last 64 =
      some (((part A B c 64 % 2 ^ 64 : Nat) : Int), (part A B c 64 % 2 ^ 64).testBit 63, ((part A B c 64 % 2 ^ 64 : Nat) : Int) == 0, carryAt A B c 64, carryAt A B c 64 != last) := by
    intro k last hk
    obtain ⟨k, rfl⟩ : ∃ m, k = m + 1 := ⟨k - 1, by omega⟩
    rw [cleatref03_Add.l0, if_neg (by decide), show (63 : Int) = ((63 : Nat) : Int) from rfl, bit_testBit _ _ _ (by omega) (by decide) (Nat.mod_lt _ (by decide)), Option.bind_some]
  intro d
  induction d with
  | zero => intro i k last hi hk hd; omega
  | succ d ih =>
    intro i k last hi hk hd
    obtain ⟨k, rfl⟩ : ∃ m, k = m + 3 := ⟨k - 3, by omega⟩
    have hp := Nat.pow_le_pow_right (show 0 < 2 by decide) (show i ≤ 63 by omega)
    have hm : part A B c i % 2 ^ i < 2 ^ i := Nat.mod_lt _ (Nat.two_pow_pos i)
    have e63 := pow63
    have hpi := pow_pos i
    refine add_round k A B i (by omega) hA hB (by omega) _ last _ _ (u64_self _ (by omega) (by rw [← cast_pow]; omega)) ?_
    intro n hn
    obtain ⟨h1, h2⟩ := bit_step A B c i hc n hn
    have e : (((part A B c i % 2 ^ i : Nat) : Int) + (if n % 2 = 1 then (2 : Int) ^ i else 0)) = ((part A B c (i + 1) % 2 ^ (i + 1) : Nat) : Int) := by
      rw [h1]; split <;> simp
    rw [e, ← h2, show (i : Int) + 1 = ((i + 1 : Nat) : Int) by omega]
    by_cases z : d = 0
    · obtain rfl : i = 63 := by omega
      exact last_round k (carryAt A B c 63) (by omega)
    · exact ih (i + 1) k (carryAt A B c i) (by omega) (by omega) (by omega)

theorem ref_add_spec (k : Nat) (a b : Int) (c : Bool) (hk : 400 ≤ k) (a0 : 0 ≤ a) (a1 : a < 18446744073709551616) (b0 : 0 ≤ b) (b1 : b < 18446744073709551616) : cleatref03_Add.f k a b c = flag_Add.f a b c := by
  obtain ⟨A, rfl⟩ := Int.eq_ofNat_of_zero_le a0
  obtain ⟨B, rfl⟩ := Int.eq_ofNat_of_zero_le b0
  have hA : A < 2 ^ 64 := by rw [pow64]; omega
  have hB : B < 2 ^ 64 := by rw [pow64]; omega
  rw [add_spec _ _ c a0 a1 b0 b1]
  unfold cleatref03_Add.f
  have h := ref_add_loop A B (if c = true then 1 else 0) hA hB (by split <;> omega) 64 0 k c (by omega) (by omega) (by omega)
  have hc0 : carryAt A B (if c = true then 1 else 0) 0 = c := by cases c <;> simp [carryAt, part, Nat.mod_one]
  have hp : part A B (if c = true then 1 else 0) 64 = A + B + (if c = true then 1 else 0) := by unfold part; rw [Nat.mod_eq_of_lt hA, Nat.mod_eq_of_lt hB]
  have hs0 : ((part A B (if c = true then 1 else 0) 0 % 2 ^ 0 : Nat) : Int) = 0 := by simp [Nat.mod_one]
  rw [hc0, hs0] at h
  have h' : cleatref03_Add.l0 k (A : Int) (B : Int) c 0 c 0 = _ := h
  rw [h']
  unfold carryAt
  rw [hp]
  have hlt : (A + B + (if c = true then 1 else 0)) % 2 ^ 64 < 2 ^ (63 + 1) := Nat.mod_lt _ (by decide)
  rw [testBit_top _ 63 hlt]
  unfold part flag_sum ovf
  rw [pow64, pow63]
  congr 1
  refine Prod.ext ?_ (Prod.ext ?_ (Prod.ext ?_ (Prod.ext ?_ ?_)))
  · cases c <;> simp
  · dsimp only; rw [decide_eq_decide]; cases c <;> simp <;> omega
  · dsimp only; rw [Bool.eq_iff_iff, beq_iff_eq, decide_eq_true_eq]; cases c <;> simp
  · dsimp only; rw [decide_eq_decide]; cases c <;> simp <;> omega
  · dsimp only
    rw [Bool.eq_iff_iff, bne_iff_ne, ne_eq, decide_eq_decide, decide_eq_true_eq]
    cases c <;> simp <;> omega
theorem ref_sub_spec (k : Nat) (a b : Int) (hk : 400 ≤ k) (a0 : 0 ≤ a) (a1 : a < 18446744073709551616) (b0 : 0 ≤ b) (b1 : b < 18446744073709551616) : cleatref03_Sub.f k a b = flag_Sub.f a b := by
  unfold cleatref03_Sub.f flag_Sub.f cleatref03_Turned.f
  rw [Option.bind_some, u64_self _ (by omega) (by omega), ref_add_spec k a _ true hk a0 a1 (by omega) (by omega), xor_ones_u64 b b0 b1]
theorem ref_of_spec (k : Nat) (v : Int) (hk : 70 ≤ k) (v0 : 0 ≤ v) (v1 : v < 18446744073709551616) : cleatref03_Of.f k v = flag_Of.f v := by
  obtain ⟨V, rfl⟩ := Int.eq_ofNat_of_zero_le v0
  have hV : V < 2 ^ 64 := by rw [pow64]; omega
  unfold cleatref03_Of.f flag_Of.f
  rw [show (63 : Int) = ((63 : Nat) : Int) from rfl, bit_testBit k V 63 hk (by decide) hV, Option.bind_some, testBit_top V 63 hV]
  congr 2
  rw [decide_eq_decide, wrap64_neg _ v0 v1, pow63]
  omega
theorem ref_holds_fin : ∀ c : Fin 14, ∀ n z cc v : Bool, cleatref03_Holds.f (c.val : Int) n z cc v = flag_Holds.f (c.val : Int) n z cc v := by decide +kernel
theorem ref_holds_spec (c : Int) (n z cc v : Bool) : cleatref03_Holds.f c n z cc v = flag_Holds.f c n z cc v := by
  by_cases h : 0 ≤ c ∧ c < 14
  · obtain ⟨m, rfl⟩ := Int.eq_ofNat_of_zero_le h.1
    exact ref_holds_fin ⟨m, by omega⟩ n z cc v
  · unfold cleatref03_Holds.f flag_Holds.f
    rw [if_neg h]
    repeat rw [if_neg (by omega)]
end Go.Proofs.Ytclomjndhcpmfaa.M
