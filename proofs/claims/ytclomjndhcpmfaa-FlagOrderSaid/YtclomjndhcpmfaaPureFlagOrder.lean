/- Behind Sub the conditions tell which of two numbers is the greater one, with and without a sign: for every two numbers of 64 bits the printed law answers true. -/
import Derived.Test.YtclomjndhcpmfaaPx6
import Derived.Test.YtclomjndhcpmfaaMFlag
namespace Go.Proofs.Ytclomjndhcpmfaa.Pure
open Go.RowKit Go.Proofs.Ytclomjndhcpmfaa.P Go.Proofs.YtclomjndhcpmfaaW.PrintWords Go.Proofs.YtclomjndhcpmfaaW.PrintLast Go.Proofs.Ytclomjndhcpmfaa.M

theorem holds_of (c : Int) (n z cc v : Bool) (h : 0 ≤ c ∧ c < 14) : cleatlaw03_holds.f c n z cc v = some (flag_Holds.base (c / 2) n z cc v == decide (c % 2 = 0)) := by
  unfold cleatlaw03_holds.f flag_Holds.f
  rw [if_pos h]
  simp only [Option.bind_some]
  cases (flag_Holds.base (c / 2) n z cc v == decide (c % 2 = 0)) <;> rfl

theorem some_bool {p q : Bool} (h : p = true ↔ q = true) : some p = some q := by rw [Bool.eq_iff_iff.2 h]

section
variable (a b : Int)
def fN := decide (9223372036854775808 ≤ (a - b) % 18446744073709551616)
def fV := ovf a (18446744073709551615 - b) ((a - b) % 18446744073709551616)
theorem o0 : cleatlaw03_holds.f 0 (fN a b) (decide (a = b)) (decide (b ≤ a)) (fV a b) = some (a == b) := by
  rw [holds_of _ _ _ _ _ (by decide)]; apply some_bool; simp [flag_Holds.base]
theorem o2 : cleatlaw03_holds.f 2 (fN a b) (decide (a = b)) (decide (b ≤ a)) (fV a b) = some (decide (a ≥ b)) := by
  rw [holds_of _ _ _ _ _ (by decide)]; apply some_bool; simp [flag_Holds.base]
theorem o8 : cleatlaw03_holds.f 8 (fN a b) (decide (a = b)) (decide (b ≤ a)) (fV a b) = some (decide (a > b)) := by
  rw [holds_of _ _ _ _ _ (by decide)]; apply some_bool; simp [flag_Holds.base]; omega
theorem o4 : cleatlaw03_holds.f 4 (fN a b) (decide (a = b)) (decide (b ≤ a)) (fV a b) = some (decide (wrap64 ((a - b) % 18446744073709551616) < 0)) := by
  rw [holds_of _ _ _ _ _ (by decide)]; apply some_bool; simp [flag_Holds.base, fN]; unfold wrap64; omega
variable (a0 : 0 ≤ a) (a1 : a < 18446744073709551616) (b0 : 0 ≤ b) (b1 : b < 18446744073709551616)
include a0 a1 b0 b1
theorem nv : (fN a b = fV a b) ↔ wrap64 a ≥ wrap64 b := by
  unfold fN fV ovf wrap64; rw [decide_eq_decide]; omega
theorem o10 : cleatlaw03_holds.f 10 (fN a b) (decide (a = b)) (decide (b ≤ a)) (fV a b) = some (decide (wrap64 a ≥ wrap64 b)) := by
  have h := nv a b a0 a1 b0 b1
  rw [holds_of _ _ _ _ _ (by decide)]; apply some_bool; simp only [flag_Holds.base]; simp [h]
theorem o12 : cleatlaw03_holds.f 12 (fN a b) (decide (a = b)) (decide (b ≤ a)) (fV a b) = some (decide (wrap64 a > wrap64 b)) := by
  have h := nv a b a0 a1 b0 b1
  rw [holds_of _ _ _ _ _ (by decide)]; apply some_bool; simp only [flag_Holds.base]; simp [h]; unfold wrap64; omega
theorem o11 : cleatlaw03_holds.f 11 (fN a b) (decide (a = b)) (decide (b ≤ a)) (fV a b) = some (decide (wrap64 a < wrap64 b)) := by
  have h := nv a b a0 a1 b0 b1
  rw [holds_of _ _ _ _ _ (by decide)]; apply some_bool; simp only [flag_Holds.base]; simp [h]
theorem o13 : cleatlaw03_holds.f 13 (fN a b) (decide (a = b)) (decide (b ≤ a)) (fV a b) = some (decide (wrap64 a ≤ wrap64 b)) := by
  have h := nv a b a0 a1 b0 b1
  rw [holds_of _ _ _ _ _ (by decide)]; apply some_bool; simp only [flag_Holds.base]; simp [h]; unfold wrap64; omega
end

theorem FlagOrder : cleatlaw03_FlagOrder.Pure := by
  intro a b ha hb
  obtain ⟨a0, a1⟩ := u64_bounds ha
  obtain ⟨b0, b1⟩ := u64_bounds hb
  refine ⟨2, ?_⟩
  have hs := sub_spec a b a0 a1 b0 b1
  have e : IntKind.u64.wrap (a - b) = (a - b) % 18446744073709551616 := IntKind.wrap_u64 _
  change flag_Sub.f a b = some (_, fN a b, _, _, fV a b) at hs
  unfold cleatlaw03_FlagOrder.f
  rw [hs]
  simp only [Option.bind_some]
  rw [o0 a b]
  simp only [Option.bind_some, beq_self_eq_true, if_true]
  rw [o2 a b]
  simp only [Option.bind_some, beq_self_eq_true, if_true]
  rw [o8 a b]
  simp only [Option.bind_some, beq_self_eq_true, cleatlaw03_FlagOrder.j0]
  rw [o10 a b a0 a1 b0 b1]
  simp only [Option.bind_some, beq_self_eq_true, if_true]
  rw [o12 a b a0 a1 b0 b1]
  simp only [Option.bind_some, beq_self_eq_true, if_true]
  rw [o11 a b a0 a1 b0 b1]
  simp only [Option.bind_some, beq_self_eq_true, if_true]
  rw [o13 a b a0 a1 b0 b1]
  simp only [Option.bind_some]
  rw [flagged_ok]
  simp only [Option.bind_some, if_true, e, beq_self_eq_true]
  rw [o4 a b]
  simp
end Go.Proofs.Ytclomjndhcpmfaa.Pure
