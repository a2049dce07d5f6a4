/- What flag's functions tell, as numbers. -/
import Derived.Test.YtclomjndhcpmfaaMBits
import Derived.Test.YtclomjndhcpmfaaPx3
import Derived.Test.YtclomjndhcpmfaaPx5
namespace Go.Proofs.Ytclomjndhcpmfaa.M
open Go.RowKit Go.Proofs.Ytclomjndhcpmfaa.P Go.Proofs.YtclomjndhcpmfaaW.PrintWords Go.Proofs.YtclomjndhcpmfaaW.PrintLast

theorem flagged_ok : cleatlaw03_flagged.f 1 = some true := by decide +kernel

theorem u64_bounds {a : Int} (h : (Lit.int .u64 a).wf = true) : 0 ≤ a ∧ a < 18446744073709551616 := by
  simp [Lit.wf, IntKind.min, IntKind.max, IntKind.bits, IntKind.signed] at h; omega

/-- The overflow that Add tells: both have one sign, and the sum has the other. -/
def ovf (a b s : Int) : Bool := decide ((9223372036854775808 ≤ a ↔ ¬ 9223372036854775808 ≤ s) ∧ (9223372036854775808 ≤ b ↔ ¬ 9223372036854775808 ≤ s))

theorem add_spec (a b : Int) (c : Bool) (a0 : 0 ≤ a) (a1 : a < 18446744073709551616) (b0 : 0 ≤ b) (b1 : b < 18446744073709551616) :
    flag_Add.f a b c = some (flag_sum a b c, decide (9223372036854775808 ≤ flag_sum a b c), decide (flag_sum a b c = 0), decide (18446744073709551616 ≤ a + b + (if c = true then 1 else 0)), ovf a b (flag_sum a b c)) := by
  have s0 : 0 ≤ flag_sum a b c := by unfold flag_sum; omega
  have s1 : flag_sum a b c < 18446744073709551616 := by unfold flag_sum; omega
  simp only [flag_Add.f, if_pos a0, if_pos b0, sign_and_xor a b _ a0 a1 b0 b1 s0 s1, wrap64_neg _ s0 s1, ovf]
  congr 4
  congr 1
  rw [Bool.eq_iff_iff]
  simp only [beq_iff_eq, decide_eq_true_eq]
  cases c <;> simp <;> omega

theorem sub_spec (a b : Int) (a0 : 0 ≤ a) (a1 : a < 18446744073709551616) (b0 : 0 ≤ b) (b1 : b < 18446744073709551616) :
    flag_Sub.f a b = some ((a - b) % 18446744073709551616, decide (9223372036854775808 ≤ (a - b) % 18446744073709551616), decide (a = b), decide (b ≤ a),
      ovf a (18446744073709551615 - b) ((a - b) % 18446744073709551616)) := by
  have e : flag_sum a (18446744073709551615 - b) true = (a - b) % 18446744073709551616 := by unfold flag_sum; simp; omega
  unfold flag_Sub.f
  rw [xor_ones_u64 b b0 b1, add_spec a _ true a0 a1 (by omega) (by omega), e]
  simp only [Option.bind_some, if_true]
  congr 5 <;> simp <;> omega
end Go.Proofs.Ytclomjndhcpmfaa.M
