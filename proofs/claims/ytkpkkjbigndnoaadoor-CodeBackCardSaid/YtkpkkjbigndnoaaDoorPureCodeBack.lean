/- Decode of Encode is the instruction: the Go law answers true for every instruction. -/
import Derived.Test.YtkpkkjbigndnoaaDoorMCodeF
import Derived.Test.YtkpkkjbigndnoaaDoorPx13
namespace Go.Proofs.YtkpkkjbigndnoaaDoor.Pure
open Go.RowKit Go.Proofs.YtkpkkjbigndnoaaDoor.P Go.Proofs.YtkpkkjbigndnoaaDoorW.PrintWords Go.Proofs.YtkpkkjbigndnoaaDoorW.PrintLast Go.Proofs.YtkpkkjbigndnoaaDoorW.PrintMore Go.Proofs.YtkpkkjbigndnoaaDoor.M
set_option linter.unusedVariables false
set_option linter.unusedSimpArgs false
theorem CodeBack (a0 a1 a2 a3 a4 a5 a6 a7 a8 a9 : Int) (w6 : (Lit.int .u64 a6).wf = true) : cleatlaw05_CodeBack.f 1000 a0 a1 a2 a3 a4 a5 a6 a7 a8 a9 = some true := by
  have b : 0 ≤ a6 ∧ a6 < 18446744073709551616 := by
    simp [Lit.wf, IntKind.min, IntKind.max, IntKind.bits, IntKind.signed] at w6; omega
  have hco := coded_at 1000 (by decide)
  unfold cleatlaw05_CodeBack.f
  rcases there ⟨a0, a1, a2, a3, a4, a5, a6, a7, a8, a9⟩ b.1 b.2 with ⟨hi, he⟩ | ⟨W, hW, hi, he, hd, ho⟩
  · unfold CI.is at hi
    simp only at hi he
    rw [he, Option.bind_some, hi, Option.bind_some, if_neg (by decide), hco, Option.bind_some, if_pos rfl, if_pos rfl]
    rfl
  · unfold CI.is at hi
    simp only [tup] at hi he hd ho
    rw [he, Option.bind_some, hi, Option.bind_some, if_pos rfl]
    simp only
    rw [hd, Option.bind_some, hco, Option.bind_some, if_pos rfl, if_pos rfl]
    simp only [if_true, beq_self_eq_true, Bool.and_self]
    rw [ho, Option.bind_some]
    simp
theorem CodeBack_walk (a0 a1 a2 a3 a4 a5 a6 a7 a8 a9 : Int) (W : World) (w0 : (Lit.int .i64 a0).wf = true) (w1 : (Lit.int .i64 a1).wf = true) (w2 : (Lit.int .i64 a2).wf = true) (w3 : (Lit.int .i64 a3).wf = true) (w4 : (Lit.int .i64 a4).wf = true) (w5 : (Lit.int .i64 a5).wf = true) (w6 : (Lit.int .u64 a6).wf = true) (w7 : (Lit.int .i64 a7).wf = true) (w8 : (Lit.int .i64 a8).wf = true) (w9 : (Lit.int .i64 a9).wf = true) (hTab : TabW W) :
    Calls Tryd.prog 3 #[.agg #[.int .i64 a0, .int .i64 a1, .int .i64 a2, .int .i64 a3, .int .i64 a4, .int .i64 a5, .int .u64 a6, .int .i64 a7, .int .i64 a8, .int .i64 a9]] W fun e w' => e = .returned (.bool true) ∧ Below W.heap.size W w' :=
  cleatlaw05_CodeBack.calls 1000 a0 a1 a2 a3 a4 a5 a6 a7 a8 a9 true W (CodeBack a0 a1 a2 a3 a4 a5 a6 a7 a8 a9 w6) hTab
end Go.Proofs.YtkpkkjbigndnoaaDoor.Pure
