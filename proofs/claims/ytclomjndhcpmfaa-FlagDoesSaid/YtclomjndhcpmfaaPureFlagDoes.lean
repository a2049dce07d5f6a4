/- Numbers have just the document's sum, flags and difference, a condition holds or not, and a number is shifted just so: the Go law answers true for all numbers and flags. -/
import Derived.Test.YtclomjndhcpmfaaPx5
import Derived.Test.YtclomjndhcpmfaaMSum
namespace Go.Proofs.Ytclomjndhcpmfaa.PureDoes
open Go.RowKit Go.Proofs.Ytclomjndhcpmfaa.P Go.Proofs.YtclomjndhcpmfaaW.PrintWords Go.Proofs.YtclomjndhcpmfaaW.PrintLast Go.Proofs.YtclomjndhcpmfaaW.PrintMore Go.Proofs.Ytclomjndhcpmfaa.M
theorem does (a b : Int) (carry : Bool) (cond : Int) (n z c v : Bool) (kind b' : Int) (ha : (Lit.int .u64 a).wf = true) (hb : (Lit.int .u64 b).wf = true) :
    cleatlaw03_FlagDoes.f 500 a b carry cond n z c v kind b' = some true := by
  obtain ⟨a0, a1⟩ := bounds_u64 ha
  obtain ⟨b0, b1⟩ := bounds_u64 hb
  have hA := add_spec a b carry a0 a1 b0 b1
  have hS := sub_spec a b a0 a1 b0 b1
  unfold cleatlaw03_FlagDoes.f
  rw [ref_add_spec 500 a b carry (by omega) a0 a1 b0 b1, ref_sub_spec 500 a b (by omega) a0 a1 b0 b1, ref_of_spec 500 a (by omega) a0 a1, ref_holds_spec, shift_spec 500 a kind b' (by omega) a0 a1, ref_shift_spec 500 a kind b' (by omega) a0 a1,
    at_rounds cleatlaw03_flagged.mono (show 1 ≤ 500 by omega) flagged_ok, hA, hS]
  cases hh : flag_Holds.f cond n z c v with
  | none => unfold flag_Holds.f at hh; split at hh <;> simp at hh
  | some r => simp [flag_Of.f]
theorem FlagDoes_walk (a b : Int) (carry : Bool) (cond : Int) (n z c v : Bool) (kind b' : Int) (W : World) (ha : (Lit.int .u64 a).wf = true) (hb : (Lit.int .u64 b).wf = true)
    (_h3 : (Lit.int .i64 cond).wf = true) (_h5 : (Lit.int .i64 kind).wf = true) (_h6 : (Lit.int .i64 b').wf = true) :
    Calls Try.prog 3 #[.int .u64 a, .int .u64 b, .bool carry, .int .i64 cond, .agg #[.bool n, .bool z, .bool c, .bool v], .int .i64 kind, .int .i64 b'] W fun e w' => e = .returned (.bool true) ∧ Below W.heap.size W w' :=
  cleatlaw03_FlagDoes.calls 500 a b carry cond n z c v kind b' true W (does a b carry cond n z c v kind b' ha hb)
end Go.Proofs.Ytclomjndhcpmfaa.PureDoes
