/- Of two conditions side by side just one holds: the Go law answers true for every number and all flags. -/
import Derived.Test.YtclomjndhcpmfaaPx6
import Derived.Test.YtclomjndhcpmfaaMFlag
namespace Go.Proofs.Ytclomjndhcpmfaa.Pure
open Go.RowKit Go.Proofs.Ytclomjndhcpmfaa.P Go.Proofs.YtclomjndhcpmfaaW.PrintWords Go.Proofs.YtclomjndhcpmfaaW.PrintLast Go.Proofs.Ytclomjndhcpmfaa.M

theorem two_fin : ∀ c : Fin 14, ∀ n z cc v : Bool, cleatlaw03_FlagTwo.f 4 (c.val : Int) n z cc v = some true := by decide +kernel

theorem two_all (a0 : Int) (n z c v : Bool) : cleatlaw03_FlagTwo.f 4 a0 n z c v = some true := by
  by_cases h : 0 ≤ a0 ∧ a0 < 14
  · obtain ⟨m, rfl⟩ := Int.eq_ofNat_of_zero_le h.1
    exact two_fin ⟨m, by omega⟩ n z c v
  · have hh : flag_Holds.f a0 n z c v = some (false, 1) := by unfold flag_Holds.f; rw [if_neg h]
    unfold cleatlaw03_FlagTwo.f
    rw [hh]
    by_cases h0 : a0 < 0
    · simp [h0, cleatlaw03_FlagTwo.j0, at_rounds cleatlaw03_flagged.mono (show 1 ≤ 3 by omega) flagged_ok]
    · have h1 : a0 > 13 := by omega
      simp [h0, h1, cleatlaw03_FlagTwo.j0, at_rounds cleatlaw03_flagged.mono (show 1 ≤ 3 by omega) flagged_ok]

theorem FlagTwo_walk (a0 : Int) (n z c v : Bool) (W : World) (_w0 : (Lit.int .i64 a0).wf = true) :
    Calls Try.prog 5 #[.int .i64 a0, .agg #[.bool n, .bool z, .bool c, .bool v]] W fun e w' => e = .returned (.bool true) ∧ Below W.heap.size W w' :=
  cleatlaw03_FlagTwo.calls 4 a0 n z c v true W (two_all a0 n z c v)
end Go.Proofs.Ytclomjndhcpmfaa.Pure
