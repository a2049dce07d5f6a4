/- Written for this claim by a program of this session: what the claim uses of lemmas and proved contracts of Go functions. -/
import Derived.Test.YtblnfngigdipcaaDoorProg
import Derived.Below
import Derived.Deep.Draws
import Derived.Deep.AppendLies
import Derived.Maps.AppendAt
import Derived.OwnWalk
import Derived.Laws.BytesArg
import Derived.Laws.MakeOwn
import Derived.Laws.OwnMore
import Derived.Deep.OwnRows
import Derived.Tactics
import Derived.Lib.ConvBytes
import Derived.Laws.Slices
import Derived.WalkKit
import Derived.KernelRfl
import Derived.RowKit3
import Derived.Deep.LoopGhost
import Derived.Deep.QuietTactic
import Derived.BigQuiet
import Derived.WideLaws
import Derived.Deep.DeepCutAuto
import Derived.Deep.CutBlock
import Derived.Deep.RegionHeld3
import Derived.Laws.Rows
import Derived.Lib.AppendStr
import Derived.ArgAppend
import Derived.Laws.IdiomCopy
import Derived.OrdersHeld
import Derived.Laws.BitsLemmas
import Derived.RowKit
import Derived.Laws.EntriesVeiled
import Derived.Lib.TrailingZeros
import Derived.Deep.WholeRow
import Derived.Laws.Tables
import Derived.Test.YtblnfngigdipcaaDoorZRenWWords
import Derived.Test.YtblnfngigdipcaaDoorZRenWLast
import Derived.Test.YtblnfngigdipcaaDoorZRenWTab
import Derived.Test.YtblnfngigdipcaaDoorZRenWApart
import Derived.Test.YtblnfngigdipcaaDoorZRenWFoot
import Derived.Test.YtblnfngigdipcaaDoorZRenWKept
import Derived.Test.YtblnfngigdipcaaDoorZRenWShare
import Derived.Test.YtblnfngigdipcaaDoorZRenWN
import Derived.Test.YtblnfngigdipcaaDoorZRenWEqStruct
import Derived.Test.YtblnfngigdipcaaDoorZRenWRepsOne
import Derived.Test.YtblnfngigdipcaaDoorZRenWInv
import Derived.Test.YtblnfngigdipcaaDoorZRenWGuard
import Derived.Test.YtblnfngigdipcaaDoorZRenWMore
namespace Go.Proofs.YtblnfngigdipcaaDoor.P
open Go.RowKit Go.Proofs.YtblnfngigdipcaaDoorW.PrintWords Go.Proofs.YtblnfngigdipcaaDoorW.PrintLast Go.Proofs.YtblnfngigdipcaaDoorW.PrintMore
attribute [local go_sem] max2_int min2_int max_two min_two max_three min_three max_four min_four   -- for this text's walks alone
set_option linter.unusedVariables false
set_option linter.unusedSimpArgs false
def errW : Option Int → Value
  | none => .nilIface
  | some c => .iface 0 (.int .i64 c)
theorem errW_none : errW none = .nilIface := rfl
theorem errW_some (c : Int) : errW (some c) = .iface 0 (.int .i64 c) := rfl
theorem info3 : (Tryd.prog.info? 3).map (fun i => (i.zero, i.size, i.bytes)) = some (some (.int .i64 0), 1, 8) := by kernel_rfl
-- the values' own types
theorem fieldS0 (a b c d e f g h i j k l : Value) (w : World) : Sem.run Tryd.prog (Instr.field 39 (.agg #[a, b, c, d, e, f, g, h, i, j, k, l]) 0) w = .ok a w := by kernel_rfl
theorem fieldS1 (a b c d e f g h i j k l : Value) (w : World) : Sem.run Tryd.prog (Instr.field 39 (.agg #[a, b, c, d, e, f, g, h, i, j, k, l]) 1) w = .ok b w := by kernel_rfl
theorem fieldS2 (a b c d e f g h i j k l : Value) (w : World) : Sem.run Tryd.prog (Instr.field 39 (.agg #[a, b, c, d, e, f, g, h, i, j, k, l]) 2) w = .ok c w := by kernel_rfl
theorem fieldS3 (a b c d e f g h i j k l : Value) (w : World) : Sem.run Tryd.prog (Instr.field 39 (.agg #[a, b, c, d, e, f, g, h, i, j, k, l]) 3) w = .ok d w := by kernel_rfl
theorem fieldS4 (a b c d e f g h i j k l : Value) (w : World) : Sem.run Tryd.prog (Instr.field 39 (.agg #[a, b, c, d, e, f, g, h, i, j, k, l]) 4) w = .ok e w := by kernel_rfl
theorem fieldS5 (a b c d e f g h i j k l : Value) (w : World) : Sem.run Tryd.prog (Instr.field 39 (.agg #[a, b, c, d, e, f, g, h, i, j, k, l]) 5) w = .ok f w := by kernel_rfl
theorem fieldS6 (a b c d e f g h i j k l : Value) (w : World) : Sem.run Tryd.prog (Instr.field 39 (.agg #[a, b, c, d, e, f, g, h, i, j, k, l]) 6) w = .ok g w := by kernel_rfl
theorem fieldS7 (a b c d e f g h i j k l : Value) (w : World) : Sem.run Tryd.prog (Instr.field 39 (.agg #[a, b, c, d, e, f, g, h, i, j, k, l]) 7) w = .ok h w := by kernel_rfl
theorem fieldS8 (a b c d e f g h i j k l : Value) (w : World) : Sem.run Tryd.prog (Instr.field 39 (.agg #[a, b, c, d, e, f, g, h, i, j, k, l]) 8) w = .ok i w := by kernel_rfl
theorem fieldS9 (a b c d e f g h i j k l : Value) (w : World) : Sem.run Tryd.prog (Instr.field 39 (.agg #[a, b, c, d, e, f, g, h, i, j, k, l]) 9) w = .ok j w := by kernel_rfl
theorem fieldS10 (a b c d e f g h i j k l : Value) (w : World) : Sem.run Tryd.prog (Instr.field 39 (.agg #[a, b, c, d, e, f, g, h, i, j, k, l]) 10) w = .ok k w := by kernel_rfl
theorem fieldS11 (a b c d e f g h i j k l : Value) (w : World) : Sem.run Tryd.prog (Instr.field 39 (.agg #[a, b, c, d, e, f, g, h, i, j, k, l]) 11) w = .ok l w := by kernel_rfl
attribute [go_sem] fieldS0 fieldS1 fieldS2 fieldS3 fieldS4 fieldS5 fieldS6 fieldS7 fieldS8 fieldS9 fieldS10 fieldS11
/-- The world holds the tables that the library's code reads. -/
structure TabW (w : World) : Prop where
  db : ∀ j, j < Lib.deBruijn64tab.length → w.cell? ⟨0, j, none⟩ = some (.int .u8 (Lib.deBruijn64tab.getD j 0 : Nat))
theorem TabW.below {w w1 : World} (h : TabW w) (hb : Below w.heap.size w w1) : TabW w1 := ⟨fun j hj => pw_cell_below hb (h.db j hj)⟩
theorem TabW.drew {w : World} (h : TabW w) : TabW w.drew := ⟨fun j hj => h.db j hj⟩
theorem TabW.drewN {w : World} (h : TabW w) (n : Nat) : TabW (w.drewN n) := ⟨fun j hj => h.db j hj⟩
/-- The first size of which it is so. -/
def mask_sizes.f (ask : Int → Option Bool) : Option Int :=
  (ask 2).bind fun b => if b = true then some 2 else (ask 4).bind fun b => if b = true then some 4 else (ask 8).bind fun b => if b = true then some 8 else
  (ask 16).bind fun b => if b = true then some 16 else (ask 32).bind fun b => if b = true then some 32 else (ask 64).bind fun b => if b = true then some 64 else some 0
theorem qa_ (a : Act) (n : Tmp) (v : Value) : Act.put a (some n) v = { a with tmps := a.tmps.setIfInBounds n v } := rfl
theorem qb_ {α : Type} (l : List α) (i : Nat) (a : α) : l.toArray.setIfInBounds i a = (l.set i a).toArray := List.setIfInBounds_toArray ..
theorem qc_ {α : Type} (x : α) (xs : List α) (a : α) : (x :: xs).set 0 a = a :: xs := rfl
theorem qd_ {α : Type} (x : α) (xs : List α) (n : Nat) (a : α) : (x :: xs).set (n + 1) a = x :: xs.set n a := rfl
theorem cells3_ {w : World} {g : Nat} {t : TypeId} {v0 v1 v2 : Value} (h : w.heap[g]? = some (.cells #[v0, v1, v2] t (0, 0))) : w.cell? ⟨g, 0, none⟩ = some v0 ∧ w.cell? ⟨g, 1, none⟩ = some v1 ∧ w.cell? ⟨g, 2, none⟩ = some v2 := ⟨(blk_cell h 0).trans rfl, (blk_cell h 1).trans rfl, (blk_cell h 2).trans rfl⟩
theorem cells10_ {w : World} {g : Nat} {t : TypeId} {v0 v1 v2 v3 v4 v5 v6 v7 v8 v9 : Value} (h : w.heap[g]? = some (.cells #[v0, v1, v2, v3, v4, v5, v6, v7, v8, v9] t (0, 0))) : w.cell? ⟨g, 0, none⟩ = some v0 ∧ w.cell? ⟨g, 1, none⟩ = some v1 ∧ w.cell? ⟨g, 2, none⟩ = some v2 ∧ w.cell? ⟨g, 3, none⟩ = some v3 ∧ w.cell? ⟨g, 4, none⟩ = some v4 ∧ w.cell? ⟨g, 5, none⟩ = some v5 ∧ w.cell? ⟨g, 6, none⟩ = some v6 ∧ w.cell? ⟨g, 7, none⟩ = some v7 ∧ w.cell? ⟨g, 8, none⟩ = some v8 ∧ w.cell? ⟨g, 9, none⟩ = some v9 := ⟨(blk_cell h 0).trans rfl, (blk_cell h 1).trans rfl, (blk_cell h 2).trans rfl, (blk_cell h 3).trans rfl, (blk_cell h 4).trans rfl, (blk_cell h 5).trans rfl, (blk_cell h 6).trans rfl, (blk_cell h 7).trans rfl, (blk_cell h 8).trans rfl, (blk_cell h 9).trans rfl⟩
theorem cells12_ {w : World} {g : Nat} {t : TypeId} {v0 v1 v2 v3 v4 v5 v6 v7 v8 v9 v10 v11 : Value} (h : w.heap[g]? = some (.cells #[v0, v1, v2, v3, v4, v5, v6, v7, v8, v9, v10, v11] t (0, 0))) : w.cell? ⟨g, 0, none⟩ = some v0 ∧ w.cell? ⟨g, 1, none⟩ = some v1 ∧ w.cell? ⟨g, 2, none⟩ = some v2 ∧ w.cell? ⟨g, 3, none⟩ = some v3 ∧ w.cell? ⟨g, 4, none⟩ = some v4 ∧ w.cell? ⟨g, 5, none⟩ = some v5 ∧ w.cell? ⟨g, 6, none⟩ = some v6 ∧ w.cell? ⟨g, 7, none⟩ = some v7 ∧ w.cell? ⟨g, 8, none⟩ = some v8 ∧ w.cell? ⟨g, 9, none⟩ = some v9 ∧ w.cell? ⟨g, 10, none⟩ = some v10 ∧ w.cell? ⟨g, 11, none⟩ = some v11 := ⟨(blk_cell h 0).trans rfl, (blk_cell h 1).trans rfl, (blk_cell h 2).trans rfl, (blk_cell h 3).trans rfl, (blk_cell h 4).trans rfl, (blk_cell h 5).trans rfl, (blk_cell h 6).trans rfl, (blk_cell h 7).trans rfl, (blk_cell h 8).trans rfl, (blk_cell h 9).trans rfl, (blk_cell h 10).trans rfl, (blk_cell h 11).trans rfl⟩
end Go.Proofs.YtblnfngigdipcaaDoor.P
