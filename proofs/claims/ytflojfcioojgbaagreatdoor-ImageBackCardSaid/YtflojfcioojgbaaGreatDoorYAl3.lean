/- Written for this claim by a program of this session: what the claim uses of lemmas and proved contracts of Go functions. -/
import Derived.Test.YtflojfcioojgbaaGreatDoorYAl2
import Derived.Laws.BitsAllLaws
namespace Go.Proofs.YtflojfcioojgbaaGreatDoor.M
open Go.RowKit Go.Proofs.YtflojfcioojgbaaGreatDoorW.PrintWords Go.Proofs.YtflojfcioojgbaaGreatDoorW.PrintLast Go.Proofs.YtflojfcioojgbaaGreatDoorW.PrintMore
theorem bounds_u64 {a : Int} (h : (Lit.int .u64 a).wf = true) : 0 ≤ a ∧ a < 18446744073709551616 := by
  simp [Lit.wf, IntKind.min, IntKind.max, IntKind.bits, IntKind.signed] at h; omega
theorem bounds_i64 {a : Int} (h : (Lit.int .i64 a).wf = true) : -9223372036854775808 ≤ a ∧ a < 9223372036854775808 := by
  simp [Lit.wf, IntKind.min, IntKind.max, IntKind.bits, IntKind.signed] at h; omega
theorem wrap64_self (x : Int) (h0 : -9223372036854775808 ≤ x) (h1 : x < 9223372036854775808) : wrap64 x = x := by unfold wrap64; omega
theorem u64_self (x : Int) (h0 : 0 ≤ x) (h1 : x < 18446744073709551616) : IntKind.u64.wrap x = x := by rw [IntKind.wrap_u64]; omega
theorem shl_nat (k : IntKind) (x : Int) (n : Nat) (h : n ≤ k.bits) : shl k x (n : Int) = k.wrap (x * 2 ^ n) := by unfold shl; rw [Int.toNat_natCast, Nat.min_eq_left h]
end Go.Proofs.YtflojfcioojgbaaGreatDoor.M
