/- What the arithmetic instructions make, in plain numbers (chapter 6). -/
import Derived.Test.YtkmochnefidlmaaDoorPx11
import Derived.Test.YtkmochnefidlmaaDoorPx12
namespace Go.Proofs.YtkmochnefidlmaaDoor.M
open Go.RowKit Go.Proofs.YtkmochnefidlmaaDoor.P Go.Proofs.YtkmochnefidlmaaDoorW.PrintWords Go.Proofs.YtkmochnefidlmaaDoorW.PrintLast Go.Proofs.YtkmochnefidlmaaDoorW.PrintMore
set_option linter.unusedVariables false
set_option linter.unusedSimpArgs false

theorem u64_mod (x : Int) : IntKind.u64.wrap x = x % 18446744073709551616 := IntKind.wrap_u64 x
theorem done_ok : cleatlaw06_done.f 40 = some true := by decide +kernel
theorem done_at (k : Nat) (hk : 40 ≤ k) : cleatlaw06_done.f k = some true := at_rounds (g := fun k => cleatlaw06_done.f k) cleatlaw06_done.mono hk done_ok
theorem is20 (k : Nat) (hk : 10 ≤ k) : alu_Is.f k 20 0 0 0 0 0 0 0 0 0 = some true := at_rounds (g := fun k => alu_Is.f k 20 0 0 0 0 0 0 0 0 0) (alu_Is.mono _ _ _ _ _ _ _ _ _ _) hk (by decide +kernel)
theorem is21 (k : Nat) (hk : 10 ≤ k) : alu_Is.f k 21 0 0 0 0 0 0 0 0 0 = some true := at_rounds (g := fun k => alu_Is.f k 21 0 0 0 0 0 0 0 0 0) (alu_Is.mono _ _ _ _ _ _ _ _ _ _) hk (by decide +kernel)
theorem do_madd (k : Nat) (hk : 10 ≤ k) (d n m a : Int) : cleatlaw06_do.f k 20 0 0 0 0 0 0 0 0 0 d n m a = some ((a + n * m) % 18446744073709551616) := by
  unfold cleatlaw06_do.f alu_Do.f
  rw [is20 k hk, Option.bind_some, if_pos rfl]
  have e : alu_work.f k 20 0 0 0 0 0 0 0 0 0 d n m a false false false false = alu_worker_madd.f 20 0 0 0 0 0 0 0 0 0 d n m a false false false false := by
    unfold alu_work.f
    simp
  rw [e]
  unfold alu_worker_madd.f
  simp only [Option.bind_some, if_true, u64_mod]
  congr 1
  omega
theorem do_msub (k : Nat) (hk : 10 ≤ k) (d n m a : Int) : cleatlaw06_do.f k 21 0 0 0 0 0 0 0 0 0 d n m a = some ((a - n * m) % 18446744073709551616) := by
  unfold cleatlaw06_do.f alu_Do.f
  rw [is21 k hk, Option.bind_some, if_pos rfl]
  have e : alu_work.f k 21 0 0 0 0 0 0 0 0 0 d n m a false false false false = alu_worker_msub.f 21 0 0 0 0 0 0 0 0 0 d n m a false false false false := by
    unfold alu_work.f
    simp
  rw [e]
  unfold alu_worker_msub.f
  simp only [Option.bind_some, if_true, u64_mod]
  congr 1
  omega
end Go.Proofs.YtkmochnefidlmaaDoor.M
