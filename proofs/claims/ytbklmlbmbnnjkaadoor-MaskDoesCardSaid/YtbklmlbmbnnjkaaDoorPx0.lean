/- Written for this claim by a program of this session (drive.py, over the print of the kit): Lean functions with the answers of Go functions, and the proofs that the Go code comes to these answers, under no condition but the readings of the arguments that each theorem names. -/
import Derived.Test.YtbklmlbmbnnjkaaDoorProg
import Derived.Below
import Derived.Deep.Draws
import Derived.Deep.AppendLies
import Derived.Maps.AppendAt
import Derived.OwnWalk
import Derived.Laws.BytesArg
import Derived.Laws.MakeOwn
import Derived.Laws.OwnMore
import Derived.Deep.OwnRows
import Derived.Tactics
import Derived.Lib.ConvBytes
import Derived.Laws.Slices
import Derived.WalkKit
import Derived.KernelRfl
import Derived.RowKit3
import Derived.Deep.LoopGhost
import Derived.Deep.QuietTactic
import Derived.BigQuiet
import Derived.WideLaws
import Derived.Deep.DeepCutAuto
import Derived.Deep.CutBlock
import Derived.Deep.RegionHeld3
import Derived.Laws.Rows
import Derived.Lib.AppendStr
import Derived.ArgAppend
import Derived.Laws.IdiomCopy
import Derived.OrdersHeld
import Derived.Laws.BitsLemmas
import Derived.RowKit
import Derived.Laws.EntriesVeiled
import Derived.Lib.TrailingZeros
import Derived.Test.YtbklmlbmbnnjkaaDoorWWords
import Derived.Test.YtbklmlbmbnnjkaaDoorWLast
import Derived.Test.YtbklmlbmbnnjkaaDoorWTab
import Derived.Test.YtbklmlbmbnnjkaaDoorWFour
import Derived.Test.YtbklmlbmbnnjkaaDoorWQPut
import Derived.Test.YtbklmlbmbnnjkaaDoorWApart
import Derived.Test.YtbklmlbmbnnjkaaDoorWArr
import Derived.Test.YtbklmlbmbnnjkaaDoorWZeros
import Derived.Test.YtbklmlbmbnnjkaaDoorWFoot
import Derived.Test.YtbklmlbmbnnjkaaDoorWKept
import Derived.Test.YtbklmlbmbnnjkaaDoorWShare
import Derived.Test.YtbklmlbmbnnjkaaDoorWN
import Derived.Test.YtbklmlbmbnnjkaaDoorWFootNe
import Derived.Test.YtbklmlbmbnnjkaaDoorWAt
import Derived.Test.YtbklmlbmbnnjkaaDoorWEqStruct
import Derived.Test.YtbklmlbmbnnjkaaDoorWRepsOne
import Derived.Test.YtbklmlbmbnnjkaaDoorWInv
import Derived.Test.YtbklmlbmbnnjkaaDoorWInvWords
import Derived.Test.YtbklmlbmbnnjkaaDoorWGuard
import Derived.Test.YtbklmlbmbnnjkaaDoorWNEv
import Derived.Test.YtbklmlbmbnnjkaaDoorWMore
namespace Go.Proofs.YtbklmlbmbnnjkaaDoor.P
open Go.RowKit Go.Proofs.YtbklmlbmbnnjkaaDoorW.PrintWords Go.Proofs.YtbklmlbmbnnjkaaDoorW.PrintLast Go.Proofs.YtbklmlbmbnnjkaaDoorW.PrintMore
attribute [local go_sem] max2_int min2_int max_two min_two max_three min_three max_four min_four   -- for this text's walks alone
set_option linter.unusedVariables false
set_option linter.unusedSimpArgs false



def errW : Option Int → Value
  | none => .nilIface
  | some c => .iface 0 (.int .i64 c)
theorem errW_none : errW none = .nilIface := rfl
theorem errW_some (c : Int) : errW (some c) = .iface 0 (.int .i64 c) := rfl

-- the values' own types

-- small lemmas of this session's own, for the hand-written contracts
theorem quiet_drawn {P : Program} {f : FuncId} {args : Array Value} {w : World} {n : Nat} {v : Value}
    (h : Calls P f args (w.drewN n) fun e w' => e = .returned v ∧ Drawn0 (w.drewN n) w') : Calls P f args (w.drewN n) fun e w'' => e = .returned v ∧ ∃ m, w'' = w.drewN m :=
  Calls.quiet_of (h.mono fun _ _ ⟨he, hd⟩ => ⟨he, hd.out⟩)
/-- The world holds the tables that the library's code reads. -/
structure TabW (w : World) : Prop where
  db : ∀ j, j < Lib.deBruijn64tab.length → w.cell? ⟨0, j, none⟩ = some (.int .u8 (Lib.deBruijn64tab.getD j 0 : Nat))
theorem TabW.below {w w1 : World} (h : TabW w) (hb : Below w.heap.size w w1) : TabW w1 := ⟨fun j hj => pw_cell_below hb (h.db j hj)⟩
theorem TabW.drew {w : World} (h : TabW w) : TabW w.drew := ⟨fun j hj => h.db j hj⟩
theorem TabW.drewN {w : World} (h : TabW w) (n : Nat) : TabW (w.drewN n) := ⟨fun j hj => h.db j hj⟩
/-- The first size of which it is so. -/
def mask_sizes.f (ask : Int → Option Bool) : Option Int :=
  (ask 2).bind fun b => if b = true then some 2 else (ask 4).bind fun b => if b = true then some 4 else (ask 8).bind fun b => if b = true then some 8 else
  (ask 16).bind fun b => if b = true then some 16 else (ask 32).bind fun b => if b = true then some 32 else (ask 64).bind fun b => if b = true then some 64 else some 0

end Go.Proofs.YtbklmlbmbnnjkaaDoor.P
