/- Written for this claim by a program of this session (drive.py, over the print of the kit): Lean functions with the answers of Go functions, and the proofs that the Go code comes to these answers, under no condition but the readings of the arguments that each theorem names. -/
import Derived.Test.YtfajpcinmpbhgaaDoorProg
import Derived.Below
import Derived.Deep.Draws
import Derived.Deep.AppendLies
import Derived.Maps.AppendAt
import Derived.OwnWalk
import Derived.Laws.BytesArg
import Derived.Laws.MakeOwn
import Derived.Laws.OwnMore
import Derived.Deep.OwnRows
import Derived.Tactics
import Derived.Lib.ConvBytes
import Derived.Laws.Slices
import Derived.WalkKit
import Derived.KernelRfl
import Derived.RowKit3
import Derived.Deep.LoopGhost
import Derived.Deep.QuietTactic
import Derived.BigQuiet
import Derived.WideLaws
import Derived.Deep.DeepCutAuto
import Derived.Deep.CutBlock
import Derived.Deep.RegionHeld3
import Derived.Laws.Rows
import Derived.Lib.AppendStr
import Derived.ArgAppend
import Derived.Laws.IdiomCopy
import Derived.OrdersHeld
import Derived.Laws.BitsLemmas
import Derived.RowKit
import Derived.Laws.EntriesVeiled
import Derived.Lib.TrailingZeros
import Derived.Lib.Strings
import Derived.Laws.RangeAny
import Derived.Lib.OthersKept
import Derived.ScopeJumps
import Derived.WalkMore
import Derived.RangeFuncRecord
import Derived.Lib.ItoaNum
import Derived.Lib.ItoaMem
import Derived.Lib.ItoaLen
import Derived.Lib.AppendIntMem
import Derived.Lib.LaidTab
import Derived.Test.YtfajpcinmpbhgaaDoorShelf
import Derived.Test.YtfajpcinmpbhgaaDoorWWords
import Derived.Test.YtfajpcinmpbhgaaDoorWLast
import Derived.Test.YtfajpcinmpbhgaaDoorWTab
import Derived.Test.YtfajpcinmpbhgaaDoorWFour
import Derived.Test.YtfajpcinmpbhgaaDoorWQPut
import Derived.Test.YtfajpcinmpbhgaaDoorWApart
import Derived.Test.YtfajpcinmpbhgaaDoorWArr
import Derived.Test.YtfajpcinmpbhgaaDoorWZeros
import Derived.Test.YtfajpcinmpbhgaaDoorWFoot
import Derived.Test.YtfajpcinmpbhgaaDoorWKept
import Derived.Test.YtfajpcinmpbhgaaDoorWShare
import Derived.Test.YtfajpcinmpbhgaaDoorWN
import Derived.Test.YtfajpcinmpbhgaaDoorWFootNe
import Derived.Test.YtfajpcinmpbhgaaDoorWAt
import Derived.Test.YtfajpcinmpbhgaaDoorWEqStruct
import Derived.Test.YtfajpcinmpbhgaaDoorWRepsOne
import Derived.Test.YtfajpcinmpbhgaaDoorWInv
import Derived.Test.YtfajpcinmpbhgaaDoorWInvWords
import Derived.Test.YtfajpcinmpbhgaaDoorWGuard
import Derived.Test.YtfajpcinmpbhgaaDoorWNEv
import Derived.Test.YtfajpcinmpbhgaaDoorWMore
namespace Go.Proofs.YtfajpcinmpbhgaaDoor.P
open Go.RowKit Go.Proofs.YtfajpcinmpbhgaaDoorW.PrintWords Go.Proofs.YtfajpcinmpbhgaaDoorW.PrintLast Go.Proofs.YtfajpcinmpbhgaaDoorW.PrintMore
attribute [local go_sem] max2_int min2_int max_two min_two max_three min_three max_four min_four   -- for this text's walks alone
set_option linter.unusedVariables false
set_option linter.unusedSimpArgs false



def errW : Option Int → Value
  | none => .nilIface
  | some c => .iface 0 (.int .i64 c)
theorem errW_none : errW none = .nilIface := rfl
theorem errW_some (c : Int) : errW (some c) = .iface 0 (.int .i64 c) := rfl

-- the values' own types

-- small lemmas of this session's own, for the hand-written contracts
theorem quiet_drawn {P : Program} {f : FuncId} {args : Array Value} {w : World} {n : Nat} {v : Value}
    (h : Calls P f args (w.drewN n) fun e w' => e = .returned v ∧ Drawn0 (w.drewN n) w') : Calls P f args (w.drewN n) fun e w'' => e = .returned v ∧ ∃ m, w'' = w.drewN m :=
  Calls.quiet_of (h.mono fun _ _ ⟨he, hd⟩ => ⟨he, hd.out⟩)
theorem tabIs_below {P : Program} {w w1 : World} {name : String} {k : IntKind} {zs : List Int} (h : Lib.TabIs P w name k zs) (hb : Below w.heap.size w w1) : Lib.TabIs P w1 name k zs := by
  unfold Lib.TabIs World.var? at *
  cases hg : P.globalNamed name with
  | none => simp [hg] at h
  | some g =>
    simp only [hg, Option.bind_some] at h ⊢
    have hlt : g < w.heap.size := by
      rcases Nat.lt_or_ge g w.heap.size with h' | h'
      · exact h'
      · rw [Array.getElem?_eq_none h'] at h; simp at h
    rw [hb.block g hlt]
    exact h
/-- The world holds the tables that the library's code reads. -/
structure TabW (w : World) : Prop where
  db : ∀ j, j < Lib.deBruijn64tab.length → w.cell? ⟨2, j, none⟩ = some (.int .u8 (Lib.deBruijn64tab.getD j 0 : Nat))
  pw : Lib.TabIs Tryd.prog w "internal/strconv.uint64pow10" .u64 Lib.pow10Tab
theorem TabW.below {w w1 : World} (h : TabW w) (hb : Below w.heap.size w w1) : TabW w1 := ⟨fun j hj => pw_cell_below hb (h.db j hj), tabIs_below h.pw hb⟩
theorem TabW.drew {w : World} (h : TabW w) : TabW w.drew := ⟨fun j hj => h.db j hj, h.pw⟩
theorem TabW.drewN {w : World} (h : TabW w) (n : Nat) : TabW (w.drewN n) := ⟨fun j hj => h.db j hj, h.pw⟩
/-- The first size of which it is so. -/
def mask_sizes.f (ask : Int → Option Bool) : Option Int :=
  (ask 2).bind fun b => if b = true then some 2 else (ask 4).bind fun b => if b = true then some 4 else (ask 8).bind fun b => if b = true then some 8 else
  (ask 16).bind fun b => if b = true then some 16 else (ask 32).bind fun b => if b = true then some 32 else (ask 64).bind fun b => if b = true then some 64 else some 0

end Go.Proofs.YtfajpcinmpbhgaaDoor.P
