/- Written for this claim by a program of this session: what the claim uses of lemmas and proved contracts of Go functions. -/
import Derived.Test.YtbklmlbmbnnjkaaDoorZDoesRx17
import Derived.Test.YtbklmlbmbnnjkaaDoorZDoesMInstR
namespace Go.Proofs.YtbklmlbmbnnjkaaDoor.Pure
open Go.RowKit Go.Proofs.YtbklmlbmbnnjkaaDoor.R Go.Proofs.YtbklmlbmbnnjkaaDoorW.PrintWords Go.Proofs.YtbklmlbmbnnjkaaDoorW.PrintLast Go.Proofs.YtbklmlbmbnnjkaaDoor.M
set_option linter.unusedVariables false
theorem InstDoes (op d n m a imm mask shift amount cond : Int) (wm : (Lit.int .u64 mask).wf = true) : cleatlaw04_InstDoes.f 1000 op d n m a imm mask shift amount cond = some true := by
  obtain ⟨mk, h⟩ := inst_all op d n m a imm mask shift amount cond wm
  obtain ⟨_, h1, h2⟩ := h 1000 (by omega)
  unfold cleatlaw04_InstDoes.f
  rw [writes_at 1000 (by omega) _ _ _ _ _ _ _ _ _ _ _ h1, Option.bind_some, ref_writes_at 1000 (by omega) _ _ _ _ _ _ _ _ _ _ _ h2, Option.bind_some, shaped_at 1000 (by omega), Option.bind_some, if_pos rfl, h1, Option.bind_some, h2, Option.bind_some, if_pos (beq_self_eq_true _),
    reads_at 1000 (by omega) _ _ _ _ _ _ _ _ _ _ _ h1, Option.bind_some, ref_reads_at 1000 (by omega) _ _ _ _ _ _ _ _ _ _ _ h2, Option.bind_some, same_refl 1000 _ (by have := rdV_len (okB op d n m a imm mask shift amount cond mk) op d n m a; omega) (by have := rdV_len (okB op d n m a imm mask shift amount cond mk) op d n m a; omega), Option.bind_some, if_pos rfl, if_pos rfl, beq_self_eq_true]
theorem InstDoes_walk (a0 a1 a2 a3 a4 a5 a6 a7 a8 a9 : Int) (W : World) (w0 : (Lit.int .i64 a0).wf = true) (w1 : (Lit.int .i64 a1).wf = true) (w2 : (Lit.int .i64 a2).wf = true) (w3 : (Lit.int .i64 a3).wf = true) (w4 : (Lit.int .i64 a4).wf = true) (w5 : (Lit.int .i64 a5).wf = true) (w6 : (Lit.int .u64 a6).wf = true) (w7 : (Lit.int .i64 a7).wf = true) (w8 : (Lit.int .i64 a8).wf = true) (w9 : (Lit.int .i64 a9).wf = true) (hTab : TabW W) :
    Calls Tryd.prog 8 #[.agg #[.int .i64 a0, .int .i64 a1, .int .i64 a2, .int .i64 a3, .int .i64 a4, .int .i64 a5, .int .u64 a6, .int .i64 a7, .int .i64 a8, .int .i64 a9]] W fun e w' => e = .returned (.bool true) ∧ Below W.heap.size W w' :=
  cleatlaw04_InstDoes.calls 1000 a0 a1 a2 a3 a4 a5 a6 a7 a8 a9 true W (InstDoes a0 a1 a2 a3 a4 a5 a6 a7 a8 a9 w6) hTab
end Go.Proofs.YtbklmlbmbnnjkaaDoor.Pure
