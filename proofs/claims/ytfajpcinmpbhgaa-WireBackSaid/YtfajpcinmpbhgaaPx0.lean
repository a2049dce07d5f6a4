/- Written for this claim by a program of this session (drive.py, over the print of the kit): Lean functions with the answers of Go functions, and the proofs that the Go code comes to these answers, under no condition but the readings of the arguments that each theorem names. -/
import Derived.Test.YtfajpcinmpbhgaaProg
import Derived.Below
import Derived.Deep.Draws
import Derived.Deep.AppendLies
import Derived.Maps.AppendAt
import Derived.OwnWalk
import Derived.Laws.BytesArg
import Derived.Laws.MakeOwn
import Derived.Laws.OwnMore
import Derived.Deep.OwnRows
import Derived.Tactics
import Derived.Lib.ConvBytes
import Derived.Laws.Slices
import Derived.WalkKit
import Derived.KernelRfl
import Derived.RowKit3
import Derived.Deep.LoopGhost
import Derived.Deep.QuietTactic
import Derived.BigQuiet
import Derived.WideLaws
import Derived.Deep.DeepCutAuto
import Derived.Deep.CutBlock
import Derived.Deep.RegionHeld3
import Derived.Laws.Rows
import Derived.Lib.AppendStr
import Derived.ArgAppend
import Derived.Laws.IdiomCopy
import Derived.OrdersHeld
import Derived.Laws.BitsLemmas
import Derived.RowKit
import Derived.Laws.EntriesVeiled
import Derived.Lib.TrailingZeros
import Derived.Lib.OthersKept
import Derived.Lib.AppendStr
import Derived.Lib.Builder
import Derived.Lib.UnsafeStr
import Derived.RangeFuncNested
import Derived.RangeFuncLeaves
import Derived.Shelf.Abstract
import Derived.TacticsIn
import Derived.BigFrameIn
import Derived.LoopNIn
import Derived.LoopIn
import Derived.RangeFuncCalls
import Derived.OwnWalkIn
import Derived.TacticsInMore
import Derived.Test.YtfajpcinmpbhgaaWWords
import Derived.Test.YtfajpcinmpbhgaaWLast
import Derived.Test.YtfajpcinmpbhgaaWTab
import Derived.Test.YtfajpcinmpbhgaaWFour
import Derived.Test.YtfajpcinmpbhgaaWQPut
import Derived.Test.YtfajpcinmpbhgaaWApart
import Derived.Test.YtfajpcinmpbhgaaWArr
import Derived.Test.YtfajpcinmpbhgaaWZeros
import Derived.Test.YtfajpcinmpbhgaaWFoot
import Derived.Test.YtfajpcinmpbhgaaWKept
import Derived.Test.YtfajpcinmpbhgaaWShare
import Derived.Test.YtfajpcinmpbhgaaWN
import Derived.Test.YtfajpcinmpbhgaaWFootNe
import Derived.Test.YtfajpcinmpbhgaaWAt
import Derived.Test.YtfajpcinmpbhgaaWEqStruct
import Derived.Test.YtfajpcinmpbhgaaWRepsOne
import Derived.Test.YtfajpcinmpbhgaaWInv
import Derived.Test.YtfajpcinmpbhgaaWInvWords
import Derived.Test.YtfajpcinmpbhgaaWGuard
import Derived.Test.YtfajpcinmpbhgaaWNEv
import Derived.Test.YtfajpcinmpbhgaaWMore
namespace Go.Proofs.Ytfajpcinmpbhgaa.P
open Go.RowKit Go.Proofs.YtfajpcinmpbhgaaW.PrintWords Go.Proofs.YtfajpcinmpbhgaaW.PrintLast Go.Proofs.YtfajpcinmpbhgaaW.PrintMore
attribute [local go_sem] max2_int min2_int max_two min_two max_three min_three max_four min_four   -- for this text's walks alone
set_option linter.unusedVariables false
set_option linter.unusedSimpArgs false



def errW : Option Int → Value
  | none => .nilIface
  | some c => .iface 0 (.int .i64 c)
theorem errW_none : errW none = .nilIface := rfl
theorem errW_some (c : Int) : errW (some c) = .iface 0 (.int .i64 c) := rfl

theorem info5 : (Try.prog.info? 5).map (fun i => (i.zero, i.size, i.bytes)) = some (some (.int .u8 0), 1, 1) := by kernel_rfl
-- the values' own types

-- small lemmas of this session's own, for the hand-written contracts
theorem quiet_drawn {P : Program} {f : FuncId} {args : Array Value} {w : World} {n : Nat} {v : Value}
    (h : Calls P f args (w.drewN n) fun e w' => e = .returned v ∧ Drawn0 (w.drewN n) w') : Calls P f args (w.drewN n) fun e w'' => e = .returned v ∧ ∃ m, w'' = w.drewN m :=
  Calls.quiet_of (h.mono fun _ _ ⟨he, hd⟩ => ⟨he, hd.out⟩)
/-- The first size of which it is so. -/
def mask_sizes.f (ask : Int → Option Bool) : Option Int :=
  (ask 2).bind fun b => if b = true then some 2 else (ask 4).bind fun b => if b = true then some 4 else (ask 8).bind fun b => if b = true then some 8 else
  (ask 16).bind fun b => if b = true then some 16 else (ask 32).bind fun b => if b = true then some 32 else (ask 64).bind fun b => if b = true then some 64 else some 0

end Go.Proofs.Ytfajpcinmpbhgaa.P
