/- Written for this claim by a program of this session: what the claim uses of lemmas and proved contracts of Go functions. -/
import Derived.Test.YtflojfcioojgbaaGreatDoorYAl3
import Derived.Test.YtflojfcioojgbaaGreatDoorProg
import Derived.Laws.EntriesVeiled
import Derived.Lib.TrailingZeros
import Derived.Lib.OthersKept
import Derived.Lib.Builder
import Derived.Lib.UnsafeStr
import Derived.RangeFuncNested
import Derived.RangeFuncLeaves
import Derived.Shelf.Abstract
import Derived.TacticsIn
import Derived.BigFrameIn
import Derived.LoopNIn
import Derived.LoopIn
import Derived.RangeFuncCalls
import Derived.OwnWalkIn
import Derived.TacticsInMore
import Derived.Deep.WholeRow
import Derived.Laws.Tables
namespace Go.Proofs.YtflojfcioojgbaaGreatDoor.P
open Go.RowKit Go.Proofs.YtflojfcioojgbaaGreatDoorW.PrintWords Go.Proofs.YtflojfcioojgbaaGreatDoorW.PrintLast Go.Proofs.YtflojfcioojgbaaGreatDoorW.PrintMore
attribute [local go_sem] max2_int min2_int max_two min_two max_three min_three max_four min_four
set_option linter.unusedVariables false
set_option linter.unusedSimpArgs false
def errW : Option Int → Value
  | none => .nilIface
  | some c => .iface 0 (.int .i64 c)
theorem errW_none : errW none = .nilIface := rfl
theorem errW_some (c : Int) : errW (some c) = .iface 0 (.int .i64 c) := rfl
structure S57 where
  f0 : Int
  f1 : Int
  f2 : ByteArray
def z57 : S57 := ⟨(0 : Int), (0 : Int), (⟨#[]⟩ : ByteArray)⟩
def k57 : Kd S57 := Kd.iso (Kd.pair (Kd.int .u64) (Kd.pair (Kd.int .i64) Kd.string)) (fun x : S57 => (x.f0, x.f1, x.f2))
theorem k57_open {w : World} {x : S57} {cs : List Value} (h : k57.K w x cs) : cs = [.int .u64 x.f0, .int .i64 x.f1, .string x.f2] := by
  obtain ⟨_, _, rfl, rfl, ⟨_, _, rfl, rfl, rfl⟩⟩ := h
  exact rfl
theorem k57_mk (w : World) (x : S57)  : k57.K w x [.int .u64 x.f0, .int .i64 x.f1, .string x.f2] := ⟨[.int .u64 x.f0], [.int .i64 x.f1, .string x.f2], rfl, rfl, ⟨[.int .i64 x.f1], [.string x.f2], rfl, rfl, rfl⟩⟩
theorem k57_mkM (w : World) (base : Nat) (ok : Nat → Prop) (x : S57)  : k57.M w base ok x [.int .u64 x.f0, .int .i64 x.f1, .string x.f2] := ⟨[.int .u64 x.f0], [.int .i64 x.f1, .string x.f2], rfl, rfl, ⟨[.int .i64 x.f1], [.string x.f2], rfl, rfl, rfl⟩⟩
def rd_T57 (xs : List S57) (i : Int) : S57 := xs.getD i.toNat z57
theorem at_T57 {w : World} {A : Option Addr} {n : Nat} {xs : List S57} (h : Kd.C k57 w A n xs) (i : Int) (h0 : 0 ≤ i) (h1 : i < n) : ∃ ad , A = some ad ∧ w.cell? (ad.add (i.toNat * 3)) = some (.int .u64 (rd_T57 xs i).f0) ∧ w.cell? ⟨(ad.add (i.toNat * 3)).block, (ad.add (i.toNat * 3)).off + 1, none⟩ = some (.int .i64 (rd_T57 xs i).f1) ∧ w.cell? ⟨(ad.add (i.toNat * 3)).block, (ad.add (i.toNat * 3)).off + 2, none⟩ = some (.string (rd_T57 xs i).f2) := by
  obtain ⟨ad, c, e, _, hK, hc0⟩ := Kd.C_get h z57 i h0 h1
  have hc : ∀ j u, c[j]? = some u → w.cell? (ad.add (i.toNat * 3 + j)) = some u := hc0
  obtain rfl := k57_open hK
  exact ⟨ad, e, hc 0 _ rfl, by rw [← add_field _ _ 1 (by omega)]; exact hc 1 _ rfl, by rw [← add_field _ _ 2 (by omega)]; exact hc 2 _ rfl⟩
structure S231 where
  f0 : Int
  f1 : Int
  f2 : Int
def z231 : S231 := ⟨(0 : Int), (0 : Int), (0 : Int)⟩
def k231 : Kd S231 := Kd.iso (Kd.pair (Kd.int .i64) (Kd.pair (Kd.int .i64) (Kd.int .u32))) (fun x : S231 => (x.f0, x.f1, x.f2))
theorem k231_open {w : World} {x : S231} {cs : List Value} (h : k231.K w x cs) : cs = [.int .i64 x.f0, .int .i64 x.f1, .int .u32 x.f2] := by
  obtain ⟨_, _, rfl, rfl, ⟨_, _, rfl, rfl, rfl⟩⟩ := h
  exact rfl
theorem k231_mkM (w : World) (base : Nat) (ok : Nat → Prop) (x : S231)  : k231.M w base ok x [.int .i64 x.f0, .int .i64 x.f1, .int .u32 x.f2] := ⟨[.int .i64 x.f0], [.int .i64 x.f1, .int .u32 x.f2], rfl, rfl, ⟨[.int .i64 x.f1], [.int .u32 x.f2], rfl, rfl, rfl⟩⟩
def rd_T231 (xs : List S231) (i : Int) : S231 := xs.getD i.toNat z231
theorem at_T231 {w : World} {A : Option Addr} {n : Nat} {xs : List S231} (h : Kd.C k231 w A n xs) (i : Int) (h0 : 0 ≤ i) (h1 : i < n) : ∃ ad , A = some ad ∧ w.cell? (ad.add (i.toNat * 3)) = some (.int .i64 (rd_T231 xs i).f0) ∧ w.cell? ⟨(ad.add (i.toNat * 3)).block, (ad.add (i.toNat * 3)).off + 1, none⟩ = some (.int .i64 (rd_T231 xs i).f1) ∧ w.cell? ⟨(ad.add (i.toNat * 3)).block, (ad.add (i.toNat * 3)).off + 2, none⟩ = some (.int .u32 (rd_T231 xs i).f2) := by
  obtain ⟨ad, c, e, _, hK, hc0⟩ := Kd.C_get h z231 i h0 h1
  have hc : ∀ j u, c[j]? = some u → w.cell? (ad.add (i.toNat * 3 + j)) = some u := hc0
  obtain rfl := k231_open hK
  exact ⟨ad, e, hc 0 _ rfl, by rw [← add_field _ _ 1 (by omega)]; exact hc 1 _ rfl, by rw [← add_field _ _ 2 (by omega)]; exact hc 2 _ rfl⟩
theorem quiet_drawn {P : Program} {f : FuncId} {args : Array Value} {w : World} {n : Nat} {v : Value}
    (h : Calls P f args (w.drewN n) fun e w' => e = .returned v ∧ Drawn0 (w.drewN n) w') : Calls P f args (w.drewN n) fun e w'' => e = .returned v ∧ ∃ m, w'' = w.drewN m :=
  Calls.quiet_of (h.mono fun _ _ ⟨he, hd⟩ => ⟨he, hd.out⟩)
theorem fieldF0 (a b c d : Value) (w : World) : Sem.run Tryz.prog (Instr.field 47 (.agg #[a, b, c, d]) 0) w = .ok a w := by kernel_rfl
theorem fieldF1 (a b c d : Value) (w : World) : Sem.run Tryz.prog (Instr.field 47 (.agg #[a, b, c, d]) 1) w = .ok b w := by kernel_rfl
theorem fieldF2 (a b c d : Value) (w : World) : Sem.run Tryz.prog (Instr.field 47 (.agg #[a, b, c, d]) 2) w = .ok c w := by kernel_rfl
theorem fieldF3 (a b c d : Value) (w : World) : Sem.run Tryz.prog (Instr.field 47 (.agg #[a, b, c, d]) 3) w = .ok d w := by kernel_rfl
attribute [go_sem] fieldF0 fieldF1 fieldF2 fieldF3
theorem fieldS0 (a b c d e f g h i j k l : Value) (w : World) : Sem.run Tryz.prog (Instr.field 223 (.agg #[a, b, c, d, e, f, g, h, i, j, k, l]) 0) w = .ok a w := by kernel_rfl
theorem fieldS1 (a b c d e f g h i j k l : Value) (w : World) : Sem.run Tryz.prog (Instr.field 223 (.agg #[a, b, c, d, e, f, g, h, i, j, k, l]) 1) w = .ok b w := by kernel_rfl
theorem fieldS2 (a b c d e f g h i j k l : Value) (w : World) : Sem.run Tryz.prog (Instr.field 223 (.agg #[a, b, c, d, e, f, g, h, i, j, k, l]) 2) w = .ok c w := by kernel_rfl
theorem fieldS3 (a b c d e f g h i j k l : Value) (w : World) : Sem.run Tryz.prog (Instr.field 223 (.agg #[a, b, c, d, e, f, g, h, i, j, k, l]) 3) w = .ok d w := by kernel_rfl
theorem fieldS4 (a b c d e f g h i j k l : Value) (w : World) : Sem.run Tryz.prog (Instr.field 223 (.agg #[a, b, c, d, e, f, g, h, i, j, k, l]) 4) w = .ok e w := by kernel_rfl
theorem fieldS5 (a b c d e f g h i j k l : Value) (w : World) : Sem.run Tryz.prog (Instr.field 223 (.agg #[a, b, c, d, e, f, g, h, i, j, k, l]) 5) w = .ok f w := by kernel_rfl
theorem fieldS6 (a b c d e f g h i j k l : Value) (w : World) : Sem.run Tryz.prog (Instr.field 223 (.agg #[a, b, c, d, e, f, g, h, i, j, k, l]) 6) w = .ok g w := by kernel_rfl
theorem fieldS7 (a b c d e f g h i j k l : Value) (w : World) : Sem.run Tryz.prog (Instr.field 223 (.agg #[a, b, c, d, e, f, g, h, i, j, k, l]) 7) w = .ok h w := by kernel_rfl
theorem fieldS8 (a b c d e f g h i j k l : Value) (w : World) : Sem.run Tryz.prog (Instr.field 223 (.agg #[a, b, c, d, e, f, g, h, i, j, k, l]) 8) w = .ok i w := by kernel_rfl
theorem fieldS9 (a b c d e f g h i j k l : Value) (w : World) : Sem.run Tryz.prog (Instr.field 223 (.agg #[a, b, c, d, e, f, g, h, i, j, k, l]) 9) w = .ok j w := by kernel_rfl
theorem fieldS10 (a b c d e f g h i j k l : Value) (w : World) : Sem.run Tryz.prog (Instr.field 223 (.agg #[a, b, c, d, e, f, g, h, i, j, k, l]) 10) w = .ok k w := by kernel_rfl
theorem fieldS11 (a b c d e f g h i j k l : Value) (w : World) : Sem.run Tryz.prog (Instr.field 223 (.agg #[a, b, c, d, e, f, g, h, i, j, k, l]) 11) w = .ok l w := by kernel_rfl
attribute [go_sem] fieldS0 fieldS1 fieldS2 fieldS3 fieldS4 fieldS5 fieldS6 fieldS7 fieldS8 fieldS9 fieldS10 fieldS11
structure TabW (w : World) : Prop where
  db : ∀ j, j < Lib.deBruijn64tab.length → w.cell? ⟨1, j, none⟩ = some (.int .u8 (Lib.deBruijn64tab.getD j 0 : Nat))
theorem TabW.below {w w1 : World} (h : TabW w) (hb : Below w.heap.size w w1) : TabW w1 := ⟨fun j hj => pw_cell_below hb (h.db j hj)⟩
theorem TabW.drew {w : World} (h : TabW w) : TabW w.drew := ⟨fun j hj => h.db j hj⟩
theorem TabW.drewN {w : World} (h : TabW w) (n : Nat) : TabW (w.drewN n) := ⟨fun j hj => h.db j hj⟩
def mask_sizes.f (ask : Int → Option Bool) : Option Int :=
  (ask 2).bind fun b => if b = true then some 2 else (ask 4).bind fun b => if b = true then some 4 else (ask 8).bind fun b => if b = true then some 8 else
  (ask 16).bind fun b => if b = true then some 16 else (ask 32).bind fun b => if b = true then some 32 else (ask 64).bind fun b => if b = true then some 64 else some 0
theorem qa_ (a : Act) (n : Tmp) (v : Value) : Act.put a (some n) v = { a with tmps := a.tmps.setIfInBounds n v } := rfl
theorem qb_ {α : Type} (l : List α) (i : Nat) (a : α) : l.toArray.setIfInBounds i a = (l.set i a).toArray := List.setIfInBounds_toArray ..
theorem qc_ {α : Type} (x : α) (xs : List α) (a : α) : (x :: xs).set 0 a = a :: xs := rfl
theorem qd_ {α : Type} (x : α) (xs : List α) (n : Nat) (a : α) : (x :: xs).set (n + 1) a = x :: xs.set n a := rfl
theorem cells3_ {w : World} {g : Nat} {t : TypeId} {v0 v1 v2 : Value} (h : w.heap[g]? = some (.cells #[v0, v1, v2] t (0, 0))) : w.cell? ⟨g, 0, none⟩ = some v0 ∧ w.cell? ⟨g, 1, none⟩ = some v1 ∧ w.cell? ⟨g, 2, none⟩ = some v2 := ⟨(blk_cell h 0).trans rfl, (blk_cell h 1).trans rfl, (blk_cell h 2).trans rfl⟩
theorem cells5_ {w : World} {g : Nat} {t : TypeId} {v0 v1 v2 v3 v4 : Value} (h : w.heap[g]? = some (.cells #[v0, v1, v2, v3, v4] t (0, 0))) : w.cell? ⟨g, 0, none⟩ = some v0 ∧ w.cell? ⟨g, 1, none⟩ = some v1 ∧ w.cell? ⟨g, 2, none⟩ = some v2 ∧ w.cell? ⟨g, 3, none⟩ = some v3 ∧ w.cell? ⟨g, 4, none⟩ = some v4 := ⟨(blk_cell h 0).trans rfl, (blk_cell h 1).trans rfl, (blk_cell h 2).trans rfl, (blk_cell h 3).trans rfl, (blk_cell h 4).trans rfl⟩
theorem cells10_ {w : World} {g : Nat} {t : TypeId} {v0 v1 v2 v3 v4 v5 v6 v7 v8 v9 : Value} (h : w.heap[g]? = some (.cells #[v0, v1, v2, v3, v4, v5, v6, v7, v8, v9] t (0, 0))) : w.cell? ⟨g, 0, none⟩ = some v0 ∧ w.cell? ⟨g, 1, none⟩ = some v1 ∧ w.cell? ⟨g, 2, none⟩ = some v2 ∧ w.cell? ⟨g, 3, none⟩ = some v3 ∧ w.cell? ⟨g, 4, none⟩ = some v4 ∧ w.cell? ⟨g, 5, none⟩ = some v5 ∧ w.cell? ⟨g, 6, none⟩ = some v6 ∧ w.cell? ⟨g, 7, none⟩ = some v7 ∧ w.cell? ⟨g, 8, none⟩ = some v8 ∧ w.cell? ⟨g, 9, none⟩ = some v9 := ⟨(blk_cell h 0).trans rfl, (blk_cell h 1).trans rfl, (blk_cell h 2).trans rfl, (blk_cell h 3).trans rfl, (blk_cell h 4).trans rfl, (blk_cell h 5).trans rfl, (blk_cell h 6).trans rfl, (blk_cell h 7).trans rfl, (blk_cell h 8).trans rfl, (blk_cell h 9).trans rfl⟩
theorem bld_infoByte : (Tryz.prog.info? 5).map (fun i => (i.zero, i.size, i.bytes)) = some (some (.int .u8 0), 1, 1) := by kernel_rfl
theorem bld_sizeB : (Tryz.prog.info? 65).map (·.size) = some 2 := by kernel_rfl
theorem bld_cellsByte : Tryz.prog.cellsOf 5 = 1 := by kernel_rfl
def BldAt (T : TypeId) (rest : List Value) (B b : Nat) (p : Value) (bs : List Value) (w : World) : Prop :=
  B ≤ b ∧ ∃ v, w.heap[b]? = some (.cells ⟨p :: v :: rest⟩ T (0, 0)) ∧ w.ownsRow B 5 1 v bs.length bs ∧ v.ownBlock ≠ some b
def Bld (T : TypeId) (rest : List Value) (B b : Nat) (bs : List Value) (w : World) : Prop :=
  BldAt T rest B b (.pointer none) bs w ∨ BldAt T rest B b (.pointer (some ⟨b, 0, none⟩)) bs w
theorem BldAt.blk {T : TypeId} {rest : List Value} {B b : Nat} {p : Value} {bs : List Value} {w : World} (h : BldAt T rest B b p bs w) : ∃ v, w.heap[b]? = some (.cells ⟨p :: v :: rest⟩ T (0, 0)) := ⟨_, h.2.choose_spec.1⟩
theorem bld_new (T : TypeId) (rest : List Value) (w : World) : Bld T rest w.heap.size w.heap.size [] (w.alloc (.cells ⟨.pointer none :: .slice none 0 0 :: rest⟩ T)) :=
  .inl ⟨Nat.le_refl _, .slice none 0 0, (by show (w.heap.push _)[w.heap.size]? = _; simp), ⟨rfl, .inl ⟨rfl, rfl⟩⟩, by simp [Value.ownBlock]⟩
theorem bld_some {T : TypeId} {rest : List Value} {B b : Nat} {bs : List Value} {w : World} (h : Bld T rest B b bs w) : ∃ p, BldAt T rest B b p bs w := by
  rcases h with h | h <;> exact ⟨_, h⟩
theorem BldAt.move {T : TypeId} {rest : List Value} {B b : Nat} {p : Value} {bs : List Value} {w w1 : World} (h : BldAt T rest B b p bs w) (hm : ∀ k, B ≤ k → (k = b ∨ ∃ c, w.heap[k]? = some (.cells c 5 (0, 0))) → w1.heap[k]? = w.heap[k]?) : BldAt T rest B b p bs w1 := by
  obtain ⟨hB, v, hb, hown, hne⟩ := h
  refine ⟨hB, v, (hm b hB (.inl rfl)).trans hb, own_move hown fun k hk => ?_, hne⟩
  obtain ⟨c, hc⟩ := own_typed hown k hk
  exact hm k (own_base hown k hk) (.inr ⟨c, hc⟩)
theorem Bld.move {T : TypeId} {rest : List Value} {B b : Nat} {bs : List Value} {w w1 : World} (h : Bld T rest B b bs w) (hm : ∀ k, B ≤ k → (k = b ∨ ∃ c, w.heap[k]? = some (.cells c 5 (0, 0))) → w1.heap[k]? = w.heap[k]?) : Bld T rest B b bs w1 := by
  rcases h with h | h
  · exact .inl (h.move hm)
  · exact .inr (h.move hm)
theorem Bld.below {T : TypeId} {rest : List Value} {B b : Nat} {bs : List Value} {w w1 : World} (h : Bld T rest B b bs w) (hb : Below w.heap.size w w1) : Bld T rest B b bs w1 := by
  refine h.move fun k _ hk => hb.block k ?_
  rcases hk with rfl | ⟨c, hc⟩
  · obtain ⟨p, h⟩ := bld_some h
    obtain ⟨v, hv⟩ := h.blk
    exact (Array.getElem?_eq_some_iff.1 hv).1
  · exact (Array.getElem?_eq_some_iff.1 hc).1
set_option maxHeartbeats 1000000 in
set_option maxRecDepth 100000 in
theorem bld_check {T : TypeId} {rest : List Value} (hlies : liesAt Tryz.prog Tryz.prog.depth T ((rest.length + 2) / Tryz.prog.cellsOf T) 0 65 1 = true) (B b : Nat) (bs : List Value) (w : World) (h : Bld T rest B b bs w) :
    Calls Tryz.prog 49 #[.pointer (some ⟨b, 0, none⟩)] w fun e w' => e = .returned (.tuple #[]) ∧ (BldAt T rest B b (.pointer (some ⟨b, 0, none⟩)) bs w' ∧ Below B w w' ∧ Lib.OthersKept 5 (some b) w w') := by
  obtain ⟨j, hj, hjs⟩ := Option.map_eq_some_iff.1 bld_sizeB
  rcases h with h | h
  · obtain ⟨hB, v, hbk, hown, hne⟩ := h
    have h0 : w.cell? ⟨b, 0, none⟩ = some (.pointer none) := by rw [Lib.cell_of_heap hbk]; rfl
    have hsh : w.shape? b = some (T, rest.length + 2) := by simp [World.shape?, hbk]
    have hfz : w.frozen? ⟨b, 0, none⟩ = false := Lib.frozen_of_heap hbk 0
    go_enter Tryz.func49, Tryz.ntmps49
    go_wp2
    rw [Lib.run_to_unsafe w ⟨b, 0, none⟩ Tryz.underlying62 Tryz.underlying128 hj (by rw [hjs]; decide) hsh (Nat.zero_lt_succ _)]
    simp only [Result.andThen]
    rw [Oper.upon_value]
    go_wp2
    rw [run_callFunc_extern Tryz.func65 (by kernel_rfl) (by kernel_rfl) (by kernel_rfl) (e := Extern.AbiNoEscape.same) (by kernel_rfl)]
    rw [Lib.run_noEscape]
    simp only [Result.andThen]
    rw [Oper.upon_value]
    go_wp2
    rw [Lib.run_from_unsafe w ⟨b, 0, none⟩ Tryz.underlying128 Tryz.underlying62 hj hsh hlies]
    simp only [Result.andThen]
    rw [Oper.upon_value]
    go_wp2
    go_end0
    refine ⟨rfl, ⟨hB, v, ?_, ?_, hne⟩, (Below.refl B w).setCell (p := ⟨b, 0, none⟩) hB _, (Lib.OthersKept.refl _ _ w).setCell ⟨b, 0, none⟩ rfl _⟩
    · simp [World.setCell, Array.getElem?_modify, hbk]
    · exact hown.kept (row := some b) ⟨rfl, rfl, rfl, by simp [World.setCell], fun k _ hk => Below.heap_setCell _ _ _ _ (fun e => hk (by simp [e]))⟩ (Or.inr hne)
  · have h' := h
    obtain ⟨hB, v, hbk, hown, hne⟩ := h'
    have h0 : w.cell? ⟨b, 0, none⟩ = some (.pointer (some ⟨b, 0, none⟩)) := by rw [Lib.cell_of_heap hbk]; rfl
    go_enter Tryz.func49, Tryz.ntmps49
    go_wp2
    rw [Lib.run_neq_ptr_same w _ Tryz.underlying62 hj]
    go_wp2
    go_end0
    exact ⟨rfl, h, Below.refl B _, Lib.OthersKept.refl _ _ _⟩
theorem bld_put {T : TypeId} {rest : List Value} {B b : Nat} {p v v' : Value} {bs' : List Value} {w : World} (hB : B ≤ b) (hb : w.heap[b]? = some (.cells ⟨p :: v :: rest⟩ T (0, 0))) (hown : w.ownsRow B 5 1 v' bs'.length bs') (hTe : T ≠ 5) :
    BldAt T rest B b p bs' (w.setCell ⟨b, 1, none⟩ v') := by
  have hne := Lib.ownBlock_ne hown hb hTe
  refine ⟨hB, v', ?_, ?_, hne⟩
  · simp [World.setCell, Array.getElem?_modify, hb]
  · exact hown.kept (row := some b) ⟨rfl, rfl, rfl, by simp [World.setCell], fun k _ hk => Below.heap_setCell _ _ _ _ (fun e => hk (by simp [e]))⟩ (Or.inr hne)
theorem own_kind {w : World} {B : Nat} {e : TypeId} {v : Value} {n : Nat} {xs : List Value} (h : w.ownsRow B e 1 v n xs) : ∀ g, v.ownBlock = some g → ∃ c fz, w.heap[g]? = some (.cells c e fz) := fun g hg => by
  obtain ⟨c, hc⟩ := own_typed h g hg
  exact ⟨c, _, hc⟩
set_option maxHeartbeats 2000000 in
set_option maxRecDepth 100000 in
theorem bld_writeByte {T : TypeId} {rest : List Value} (hT : T ≠ 5) (hlies : liesAt Tryz.prog Tryz.prog.depth T ((rest.length + 2) / Tryz.prog.cellsOf T) 0 65 1 = true) (B b : Nat) (bs : List Value) (c : Int) (w : World) (h : Bld T rest B b bs w) (hlen : bs.length + 1 ≤ 140737488355328) (hBw : B ≤ w.heap.size) :
    Calls Tryz.prog 67 #[.pointer (some ⟨b, 0, none⟩), .int .u8 c] w fun e w' => e = .returned .nilIface ∧ (BldAt T rest B b (.pointer (some ⟨b, 0, none⟩)) (bs ++ [.int .u8 c]) w' ∧ Below B w w' ∧ Lib.OthersKept 5 (some b) w w') := by
  obtain ⟨i0, hi, hz0, hz1, hz2⟩ := info_parts bld_infoByte
  go_enter Tryz.func67, Tryz.ntmps67
  go_wp2_with (go_at_call 49; refine (bld_check hlies B b bs _ h).mono ?_)
  rintro e w1 ⟨rfl, h1, hb1, hk1⟩
  obtain ⟨hB, v, hbk, hown, hne⟩ := h1
  have c0 : w1.cell? ⟨b, 0, none⟩ = some (.pointer (some ⟨b, 0, none⟩)) := by rw [Lib.cell_of_heap hbk]; rfl
  have c1 : w1.cell? ⟨b, 1, none⟩ = some v := by rw [Lib.cell_of_heap hbk]; rfl
  go_wp2_with (at_builtin; refine wpList_append_own _ rfl _ _ 63 rfl B 5 i0 (.int .u8 0) 1 1 Tryz.underlying63 hi hz0 hz1 hz2 rfl (by decide) _ _ _ rfl (hown.alloc _) ⟨w1.heap.size, 0, none⟩ 1 1 [.int .u8 c] rfl rfl ?c1 ?c2 ?c3 ?c4 ?c5 ?_)
  case c1 =>
    intro j u hj
    match j, hj with
    | 0, hj => simp at hj; subst hj; simp [Addr.add]
  case c2 => intro u hu; simp at hu; subst hu; rfl
  case c3 => unfold maxLen; omega
  case c4 => omega
  case c5 => have := hb1.size; simp; omega
  intro v' w2 hown' hgrow _
  have hlt : b < w1.heap.size := (Array.getElem?_eq_some_iff.1 hbk).1
  have hb2 : w2.heap[b]? = some (.cells ⟨.pointer (some ⟨b, 0, none⟩) :: v :: rest⟩ T (0, 0)) := by
    rw [hgrow.block b (by simp; omega) (fun e => hne e.symm), Lib.alloc_old w1 _ b hlt]
    exact hbk
  have d0 : w2.cell? ⟨b, 0, none⟩ = some (.pointer (some ⟨b, 0, none⟩)) := by rw [Lib.cell_of_heap hb2]; rfl
  have d1 : w2.cell? ⟨b, 1, none⟩ = some v := by rw [Lib.cell_of_heap hb2]; rfl
  have f1 : w2.frozen? ⟨b, 1, none⟩ = false := Lib.frozen_of_heap hb2 1
  obtain ⟨g, cap, rfl⟩ : ∃ g cap, v' = .slice (some ⟨g, 0, none⟩) (bs.length + 1) cap := by
    rcases hown'.2 with ⟨_, h0⟩ | ⟨g, cap, cur, hv, _⟩
    · omega
    · exact ⟨g, cap, hv⟩
  go_wp2
  go_ret
  refine ⟨rfl, ?_, ?_, ((hk1.alloc _).grown hgrow (own_kind (hown.alloc _))).setCell ⟨b, 1, none⟩ rfl _⟩
  · exact bld_put hB hb2 (bs' := bs ++ [.int .u8 c]) (by simpa using hown') hT
  · exact ((hb1.alloc (by have := hb1.size; omega) _).grown hgrow (by have := hb1.size; simp; omega) (fun k hk => (hown.lt k hk).1)).setCell (p := ⟨b, 1, none⟩) hB _
set_option maxHeartbeats 2000000 in
set_option maxRecDepth 100000 in
theorem bld_writeString {T : TypeId} {rest : List Value} (hT : T ≠ 5) (hlies : liesAt Tryz.prog Tryz.prog.depth T ((rest.length + 2) / Tryz.prog.cellsOf T) 0 65 1 = true) (B b : Nat) (bs : List Value) (s : ByteArray) (w : World) (h : Bld T rest B b bs w) (hlen : bs.length + s.size ≤ 140737488355328) (hBw : B ≤ w.heap.size) :
    Calls Tryz.prog 27 #[.pointer (some ⟨b, 0, none⟩), .string s] w fun e w' => e = .returned (.tuple #[.int .i64 s.size, .nilIface]) ∧ (BldAt T rest B b (.pointer (some ⟨b, 0, none⟩)) (bs ++ Lib.strCells s) w' ∧ Below B w w' ∧ Lib.OthersKept 5 (some b) w w') := by
  obtain ⟨i0, hi, hz0, hz1, hz2⟩ := info_parts bld_infoByte
  go_enter Tryz.func27, Tryz.ntmps27
  go_wp2_with (go_at_call 49; refine (bld_check hlies B b bs _ h).mono ?_)
  rintro e w1 ⟨rfl, h1, hb1, hk1⟩
  obtain ⟨hB, v, hbk, hown, hne⟩ := h1
  have c0 : w1.cell? ⟨b, 0, none⟩ = some (.pointer (some ⟨b, 0, none⟩)) := by rw [Lib.cell_of_heap hbk]; rfl
  have c1 : w1.cell? ⟨b, 1, none⟩ = some v := by rw [Lib.cell_of_heap hbk]; rfl
  go_wp2_with (at_builtin; refine Lib.wpList_append_own_string _ rfl _ _ 63 9 rfl B 5 i0 Tryz.underlying63 Tryz.underlying9 hi hz0 hz1 hz2 _ _ _ rfl hown s rfl ?c3 ?c4 ?c5 ?_)
  case c3 => unfold maxLen; omega
  case c4 => omega
  case c5 => have := hb1.size; omega
  intro v' w2 hown' hgrow _
  have hlt : b < w1.heap.size := (Array.getElem?_eq_some_iff.1 hbk).1
  have hb2 : w2.heap[b]? = some (.cells ⟨.pointer (some ⟨b, 0, none⟩) :: v :: rest⟩ T (0, 0)) := by
    rw [hgrow.block b hlt (fun e => hne e.symm)]
    exact hbk
  have d0 : w2.cell? ⟨b, 0, none⟩ = some (.pointer (some ⟨b, 0, none⟩)) := by rw [Lib.cell_of_heap hb2]; rfl
  have d1 : w2.cell? ⟨b, 1, none⟩ = some v := by rw [Lib.cell_of_heap hb2]; rfl
  have f1 : w2.frozen? ⟨b, 1, none⟩ = false := Lib.frozen_of_heap hb2 1
  obtain ⟨ao, n', cap, rfl⟩ : ∃ ao n' cap, v' = .slice ao n' cap := by
    rcases hown'.2 with ⟨hv, _⟩ | ⟨g, cap, cur, hv, _⟩
    · exact ⟨_, _, _, hv⟩
    · exact ⟨_, _, _, hv⟩
  go_wp2
  go_ret2
  refine ⟨rfl, ?_, ?_, (hk1.grown hgrow (own_kind hown)).setCell ⟨b, 1, none⟩ rfl _⟩
  · exact bld_put hB hb2 (bs' := bs ++ Lib.strCells s) (by rw [List.length_append, Lib.strCells_length]; exact hown') hT
  · exact (hb1.grown hgrow (by have := hb1.size; omega) (fun k hk => (hown.lt k hk).1)).setCell (p := ⟨b, 1, none⟩) hB _
set_option maxHeartbeats 1000000 in
set_option maxRecDepth 100000 in
theorem bld_string {T : TypeId} {rest : List Value} (B b : Nat) (l : List UInt8) (w : World) (h : Bld T rest B b (Lib.byteCells l) w) (h0 : l ≠ []) :
    Calls Tryz.prog 31 #[.pointer (some ⟨b, 0, none⟩)] w fun e w' => e = .returned (.string ⟨l.toArray⟩) ∧ Below B w w' := by
  obtain ⟨p, hB, v, hbk, hown, hne⟩ := bld_some h
  have hl0 : l.length ≠ 0 := by simpa using h0
  rw [Lib.byteCells_length] at hown
  obtain ⟨g, cap, cur, rfl, hbg, hg, hnc, hcm, hcs, htake⟩ : ∃ g cap cur, v = .slice (some ⟨g, 0, none⟩) l.length cap ∧ B ≤ g ∧ w.heap[g]? = some (.cells cur 5 (0, 0)) ∧ l.length ≤ cap ∧ cap ≤ maxLen ∧ cur.size = cap * 1 ∧ cur.toList.take (l.length * 1) = Lib.byteCells l := by
    rcases hown.2 with ⟨_, hz⟩ | ⟨g, cap, cur, hv, r⟩
    · exact absurd hz hl0
    · exact ⟨g, cap, cur, hv, r⟩
  have c1 : w.drew.cell? ⟨b, 1, none⟩ = some (.slice (some ⟨g, 0, none⟩) l.length cap) := by
    have : w.drew.heap[b]? = some (.cells ⟨p :: .slice (some ⟨g, 0, none⟩) l.length cap :: rest⟩ T (0, 0)) := hbk
    rw [Lib.cell_of_heap this]; rfl
  have hSD : (Builtin.unsafeSliceData_ #[63] 100 #[.slice (some ⟨g, 0, none⟩) l.length cap]).run Tryz.prog w.drew = .ok (.pointer (some ⟨g, 0, none⟩)) w.drew :=
    Lib.run_unsafeSliceData_row _ _ _ _ _ _ (by omega)
  have hUS : (Builtin.unsafeString_ #[100, 3] 9 #[.pointer (some ⟨g, 0, none⟩), .int .i64 l.length]).run Tryz.prog w.drew = .ok (.string ⟨l.toArray⟩) (w.drew.freeze ⟨g, 0, none⟩ l.length) := by
    refine Lib.run_unsafeString_row w.drew 100 3 9 5 Tryz.underlying100 bld_cellsByte g cur.size (by have hg' : w.drew.heap[g]? = some (.cells cur 5 (0, 0)) := hg; simp [World.shape?, hg']) l h0 (by omega) (by unfold maxLen at hcm; omega) ?_
    intro j x hx
    have := hown.cells (g := g) rfl j (.int .u8 x.toNat) (by simp [Lib.byteCells, hx])
    exact this
  go_enter Tryz.func31, Tryz.ntmps31
  go_wp2
  go_region
  all_goals (go_wp2; go_ret; exact ⟨rfl, Lib.below_freeze (Below.drew (Below.refl B w)) (p := ⟨g, 0, none⟩) hbg _⟩)
def wire_putL (v : Nat) : List UInt8 := if h : v < 128 then [UInt8.ofNat v] else UInt8.ofNat (v % 128 + 128) :: wire_putL (v / 128)
  termination_by v
  decreasing_by omega
theorem wire_putL_less (v : Nat) (h : v < 128) : wire_putL v = [UInt8.ofNat v] := by rw [wire_putL, dif_pos h]
theorem wire_putL_more (v : Nat) (h : ¬ v < 128) : wire_putL v = UInt8.ofNat (v % 128 + 128) :: wire_putL (v / 128) := by rw [wire_putL, dif_neg h]
theorem wire_putL_ne (v : Nat) : wire_putL v ≠ [] := by
  by_cases h : v < 128
  · rw [wire_putL_less v h]; simp
  · rw [wire_putL_more v h]; simp
theorem wire_putL_len : ∀ (n v : Nat), v < 2 ^ (7 * n) → (wire_putL v).length ≤ n ∨ v = 0
  | 0, v, h => .inr (by simpa using h)
  | n + 1, v, h => by
    by_cases h1 : v < 128
    · rw [wire_putL_less v h1]; left; simp
    · rw [wire_putL_more v h1]
      left
      have e : (2 : Nat) ^ (7 * (n + 1)) = 128 * 2 ^ (7 * n) := by rw [Nat.mul_add, Nat.pow_add, Nat.mul_comm]
      rcases wire_putL_len n (v / 128) (by omega) with h2 | h2
      · simp; omega
      · omega
theorem wire_putL_ten (v : Nat) (h : v < 18446744073709551616) : (wire_putL v).length ≤ 10 := by
  have e : (2 : Nat) ^ (7 * 10) = 1180591620717411303424 := by decide
  have h70 : v < 2 ^ (7 * 10) := by omega
  rcases wire_putL_len 10 v h70 with h | rfl
  · exact h
  · rw [wire_putL_less 0 (by decide)]; simp
def wire_mk (d : Nat) (more : Bool) : Nat := if more = true then d + 128 else d
theorem wire_or_fin : ∀ d : Fin 128, Go.bits .or .u8 (d.val : Int) 128 = ((d.val + 128 : Nat) : Int) := by decide +kernel
def NumJ (b B : Nat) (bs : List Value) (w0 : World) (v : Nat) (o : Obj) (y : Nat) (out r : List UInt8) (W : World) : Prop :=
  wire_putL v = out ++ r ∧ y < 18446744073709551616 ∧ Bld 99 [] B b (bs ++ Lib.byteCells out) W ∧ W.heap[w0.heap.size]? = some (.cells #[.pointer (some ⟨b, 0, none⟩)] 130 (0, 0)) ∧
  W.heap[w0.heap.size + 1]? = some (.cells #[.int .u64 y] 22 (0, 0)) ∧ W.heap[w0.heap.size + 2]? = some (.deferred (some [])) ∧ W.heap[w0.heap.size + 3]? = some o ∧ Below B w0 W
theorem NumJ.set {b B : Nat} {bs : List Value} {w0 : World} {v : Nat} {o : Obj} {y z : Nat} {out r : List UInt8} {W : World} (h : NumJ b B bs w0 v o y out r W) (hz : z < 18446744073709551616) (hbw : b < w0.heap.size) (hB : B ≤ b) :
    NumJ b B bs w0 v o z out r (W.setCell ⟨w0.heap.size + 1, 0, none⟩ (.int .u64 z)) := by
  obtain ⟨h1, h2, h3, h4, h5, h6, h7, h8⟩ := h
  have other : ∀ k, k ≠ w0.heap.size + 1 → (W.setCell ⟨w0.heap.size + 1, 0, none⟩ (.int .u64 z)).heap[k]? = W.heap[k]? := fun k hk => Below.heap_setCell _ _ _ _ hk
  refine ⟨h1, hz, h3.move fun k _ hk => other k ?_, (other _ (by omega)).trans h4, ?_, (other _ (by omega)).trans h6, (other _ (by omega)).trans h7, h8.setCell (p := ⟨w0.heap.size + 1, 0, none⟩) (by show B ≤ w0.heap.size + 1; omega) _⟩
  · rintro rfl
    rcases hk with e | ⟨c, hc⟩
    · omega
    · rw [h5] at hc
      simp at hc
  · simp [World.setCell, Array.getElem?_modify, h5]
set_option maxHeartbeats 4000000 in
set_option maxRecDepth 100000 in
theorem wire_digits1 (F : Fence) (n : Nat) (hf : F.fn 89) (hro : F.round = none) (hn : 1 ≤ n) (b B : Nat) (bs : List Value) (w0 : World) (v : Nat) (hv : v < 18446744073709551616) (o : Obj) (hbw : b < w0.heap.size) (hB : B ≤ b)
    (hY : ∀ (y d : Nat) (more : Bool) (out r : List UInt8) (W : World), d < 128 → NumJ b B bs w0 v o y out (UInt8.ofNat (wire_mk d more) :: r) W →
      YieldAt F (n - 1) Tryz.prog (w0.heap.size + 3) #[.int .u8 d, .bool more] W fun e W' => e = .returned (.bool true) ∧ NumJ b B bs w0 v o y (out ++ [UInt8.ofNat (wire_mk d more)]) r W')
    (W : World) (hJ : NumJ b B bs w0 v o v [] (wire_putL v) W) :
    CallsIn F n Tryz.prog 89 #[.func (.yield (w0.heap.size + 3)) #[] #[], .pointer (some ⟨w0.heap.size + 1, 0, none⟩)] W fun e W' => (∃ x, e = .returned x) ∧ ∃ y, NumJ b B bs w0 v o y (wire_putL v) [] W' := by
  refine callsIn_of_wp Tryz.func89 rfl hf ?_ hro
  simp only [Tryz.ntmps89, List.size_toArray, List.length_cons, List.length_nil, Nat.reduceAdd, Nat.reduceSub, Array.replicate_succ, Array.replicate_zero, List.push_toArray, List.append_toArray, List.nil_append, List.cons_append]
  gi_wp2
  gi_loopw [3] (fun _ wr => ∃ (x : Nat) (out : List UInt8), NumJ b B bs w0 v o x out (wire_putL x) wr)
    (fun _ wr => match wr.cell? ⟨w0.heap.size + 1, 0, none⟩ with | some (.int _ x) => x.toNat | _ => 0)
  case atStart => exact ⟨v, [], hJ⟩
  case round =>
    obtain ⟨x, out, hx⟩ := hrel
    have hx5 := hx.2.2.2.2.1
    have hxl := hx.2.1
    have hc : wr.cell? ⟨w0.heap.size + 1, 0, none⟩ = some (.int .u64 x) := by rw [Lib.cell_of_heap hx5]; rfl
    by_cases hlt : x < 128
    · rw [wire_putL_less x hlt] at hx
      obtain ⟨fn, tmps, assign, body, hy, hR⟩ := hY x x false out [] wr hlt hx
      gi_wp2
      refine hR.mono ?_
      rintro e W1 ⟨rfl, hJ1⟩
      have e1 : out ++ [UInt8.ofNat (wire_mk x false)] = wire_putL v := hx.1.symm
      rw [e1] at hJ1
      gi_wp2
      go_end0
      exact ⟨⟨_, rfl⟩, x, hJ1⟩
    · rw [wire_putL_more x hlt] at hx
      obtain ⟨fn, tmps, assign, body, hy, hR⟩ := hY x (x % 128) true out (wire_putL (x / 128)) wr (Nat.mod_lt _ (by decide)) hx
      have ed : ((x % 128 : Nat) : Int) = (x : Int) % 128 := by omega
      rw [ed] at hy
      clear ed
      have HR := aq hR
      clear hR
      gi_wp2
      refine HR.out.mono ?_
      rintro e W1 ⟨rfl, hJ1⟩
      have h15 := hJ1.2.2.2.2.1
      have hc1 : W1.cell? ⟨w0.heap.size + 1, 0, none⟩ = some (.int .u64 x) := by rw [Lib.cell_of_heap h15]; rfl
      have hf1 : W1.frozen? ⟨w0.heap.size + 1, 0, none⟩ = false := Lib.frozen_of_heap h15 0
      have hJ2 := aq (hJ1.set (z := x / 128) (by omega) hbw hB)
      have hm : Aside0 ((W1.setCell ⟨w0.heap.size + 1, 0, none⟩ (.int .u64 ((x / 128 : Nat) : Int))).cell? ⟨w0.heap.size + 1, 0, none⟩ = some (.int .u64 ((x / 128 : Nat) : Int))) := ⟨World.cell?_setCell_same' _ _ _ (by rw [hc1]; rfl)⟩
      clear hJ1 h15
      gi_wp2
      go_roundw
      case rel => exact ⟨x / 128, _, by simpa using hJ2.out⟩
      case measure =>
        have hm := hm.out
        rw [Int.natCast_ediv] at hm
        have e1 : ((128 : Nat) : Int) = 128 := rfl
        rw [e1] at hm
        rw [hc, hm]
        show ((x : Int) / 128).toNat < (x : Int).toNat
        omega
theorem NumJ.putObj {b B : Nat} {bs : List Value} {w0 : World} {v : Nat} {o : Obj} {y : Nat} {out r : List UInt8} {W : World} (h : NumJ b B bs w0 v o y out r W) (o' : Obj) (hn : ∀ c t fz, o ≠ .cells c t fz) (hbw : b < w0.heap.size) (hB : B ≤ b) :
    NumJ b B bs w0 v o' y out r (W.putObj (w0.heap.size + 3) o') := by
  obtain ⟨h1, h2, h3, h4, h5, h6, h7, h8⟩ := h
  have other : ∀ k, k ≠ w0.heap.size + 3 → (W.putObj (w0.heap.size + 3) o').heap[k]? = W.heap[k]? := fun k hk => World.putObj_heap_other hk
  have hlt : w0.heap.size + 3 < W.heap.size := (Array.getElem?_eq_some_iff.1 h7).1
  refine ⟨h1, h2, h3.move fun k _ hk => other k ?_, (other _ (by omega)).trans h4, (other _ (by omega)).trans h5, (other _ (by omega)).trans h6, World.putObj_heap_same hlt, ?_⟩
  · rintro rfl
    rcases hk with e | ⟨c, hc⟩
    · omega
    · rw [h7] at hc
      exact hn _ _ _ (Option.some.inj hc)
  · exact h8.grown (grownBy_putObj' W (w0.heap.size + 3) o') (by have := h8.size; omega) (fun k e => by cases e; have := h8.size; omega)
theorem range_open {P : Program} {F : Fence} {n : Nat} {g : Operand} {ps : Array Tmp} {assign body : Code} {Q : Exit → Act → World → Prop} {a : Act} {w : World} (hro : F.round = none) (h1 : 1 ≤ n) {gf : Nat} {lb : Array Value} (hg : a.eval g = .func (.func gf) #[] lb) (hFg : F.fn gf) (eg : ∀ args w, (callFunc gf args).run P w = .ok (.enter gf args) w)
    (h : ∀ (fn : FuncId) (rec : LoopState → Option Code → Loop), F.fn fn → (rec = fun st pe => { state := st, pending := pe, fn, tmps := a.tmps, params := ps, assign, body, defers := w.heap.size }) →
      CallsIn F (n - 1) P gf (#[.func (.yield (w.heap.size + 1)) #[] #[]] ++ lb) ((w.alloc (.deferred (some []))).alloc (.loop (rec .ready none))) (rangePost F n P (w.heap.size + 1) Q { a with defers := [{ target := .collected w.heap.size, args := #[] }] ++ a.defers })) :
    (Code.rangeFunc g ps assign body).wpIn F n P Q a w := by
  refine wpIn_rangeFunc ?_
  intro fn hfn
  rw [hro]
  obtain ⟨rec, hrec⟩ : ∃ rec : LoopState → Option Code → Loop, rec = fun st pe => { state := st, pending := pe, fn, tmps := a.tmps, params := ps, assign, body, defers := w.heap.size } := ⟨_, rfl⟩
  refine ⟨w.heap.size + 1, [{ target := .collected w.heap.size, args := #[] }], (w.alloc (.deferred (some []))).alloc (.loop (rec .ready none)), { target := .fn (.func gf) lb, args := #[.func (.yield (w.heap.size + 1)) #[] #[]] }, (w.alloc (.deferred (some []))).alloc (.loop (rec .ready none)), gf,
    #[.func (.yield (w.heap.size + 1)) #[] #[]] ++ lb, (w.alloc (.deferred (some []))).alloc (.loop (rec .ready none)), ?_, ?_, ?_, ?_, fun _ => h1, ?_⟩
  · rw [hrec]; exact run_enterLoop_outer _ _ _ _ _
  · simp only [resolve, hg]
    simp [go_sem]
  · intro f' hf'; simp [Target.leads] at hf'; subst hf'; exact hFg
  · simp [invoke, go_sem, eg]
  · have hh := h fn rec hfn hrec
    exact hh
theorem NumJ.wrote {b B : Nat} {bs : List Value} {w0 : World} {v : Nat} {o : Obj} {y : Nat} {out r : List UInt8} {c : UInt8} {W W3 : World} (h : NumJ b B bs w0 v o y out (c :: r) W) (hn : ∀ c t fz, o ≠ .cells c t fz) (hbw : b < w0.heap.size)
    (h3 : BldAt 99 [] B b (.pointer (some ⟨b, 0, none⟩)) (bs ++ Lib.byteCells out ++ [.int .u8 c.toNat]) W3) (hb : Below B W W3) (hk : Lib.OthersKept 5 (some b) W W3) : NumJ b B bs w0 v o y (out ++ [c]) r W3 := by
  obtain ⟨h1, h2, _, h4, h5, h6, h7, h8⟩ := h
  refine ⟨by rw [h1]; simp, h2, .inr ?_, hk _ _ h4 (by simp; omega) (fun _ _ e => by cases e), hk _ _ h5 (by simp; omega) (fun _ _ e => by cases e), hk _ _ h6 (by simp; omega) (fun _ _ e => by cases e), hk _ _ h7 (by simp; omega) (hn · 5), h8.trans hb⟩
  simpa [Lib.byteCells] using h3
theorem wire_digits.exact (v : Int) (w : World) : Calls Tryz.prog 66 #[.int .u64 v] w fun e w' => e = .returned (.func (.func 89) #[] #[.pointer (some ⟨w.heap.size, 0, none⟩)]) ∧ w.alloc (.cells #[.int .u64 v] 22) = w' := by
  go_enter Tryz.func66, Tryz.ntmps66
  go_wp2
  go_ret
  exact ⟨rfl, rfl⟩
section
attribute [local go_sem] Oper.semAt_some
set_option maxHeartbeats 4000000 in
set_option maxRecDepth 100000 in
theorem wire_number (v b B : Nat) (bs : List Value) (w0 : World) (hv : v < 18446744073709551616) (hb : Bld 99 [] B b bs w0) (hlen : bs.length + 10 ≤ 140737488355328) (hBw : B ≤ w0.heap.size) :
    Calls Tryz.prog 50 #[.pointer (some ⟨b, 0, none⟩), .int .u64 v] w0 fun e W' => e = .returned (.tuple #[]) ∧ Bld 99 [] B b (bs ++ Lib.byteCells (wire_putL v)) W' ∧ Below B w0 W' := by
  obtain ⟨p, hp⟩ := bld_some hb
  have hB : B ≤ b := hp.1
  have hbw : b < w0.heap.size := by obtain ⟨_, h⟩ := hp.blk; exact (Array.getElem?_eq_some_iff.1 h).1
  clear hp
  refine (callsIn_wide (n := 3)).1 ?_
  refine callsIn_of_wp_marks Tryz.func50 rfl trivial ?_
  simp only [Tryz.ntmps50, List.size_toArray, List.length_cons, List.length_nil, Nat.reduceAdd, Nat.reduceSub, Array.replicate_succ, Array.replicate_zero, List.push_toArray, List.append_toArray, List.nil_append, List.cons_append]
  gi_wp2_with (refine ⟨trivial, ?_⟩; gi_at_call 66; refine (callsIn_wide.2 (wire_digits.exact _ _)).mono ?_; rintro e w' ⟨rfl, rfl⟩)
  obtain ⟨w1, hw1⟩ : ∃ w1, (w0.alloc (.cells #[.pointer (some ⟨b, 0, none⟩)] 130)).alloc (.cells #[.int .u64 v] 22) = w1 := ⟨_, rfl⟩
  rw [hw1]
  have hs1 : w1.heap.size = w0.heap.size + 2 := by rw [← hw1]; simp
  refine range_open rfl (by decide) (gf := 89) (lb := #[.pointer (some ⟨w0.heap.size + 1, 0, none⟩)]) rfl trivial (enters_of Tryz.func89 (by kernel_rfl) rfl) ?_
  intro fn rec _ hrec
  have hJ : NumJ b B bs w0 v (.loop (rec .ready none)) v [] (wire_putL v) ((w1.alloc (.deferred (some []))).alloc (.loop (rec .ready none))) := by
    have b1 : Below w0.heap.size w0 w1 := by rw [← hw1]; exact below_alloc (below_alloc (Below.refl _ _) _) _
    have b2 := below_alloc (below_alloc b1 (.deferred (some []))) (.loop (rec .ready none))
    have n0 : w1.heap[w0.heap.size]? = some (.cells #[.pointer (some ⟨b, 0, none⟩)] 130 (0, 0)) := by rw [← hw1, Lib.alloc_old _ _ _ (by simp)]; exact World.alloc_heap_new _ _
    have n1 : w1.heap[w0.heap.size + 1]? = some (.cells #[.int .u64 v] 22 (0, 0)) := by rw [← hw1]; have := World.alloc_heap_new (w0.alloc (.cells #[.pointer (some ⟨b, 0, none⟩)] 130)) (.cells #[.int .u64 v] 22); rwa [World.size_alloc] at this
    have keep : ∀ k, k < w1.heap.size → ((w1.alloc (.deferred (some []))).alloc (.loop (rec .ready none))).heap[k]? = w1.heap[k]? := fun k hk => by
      rw [Lib.alloc_old _ _ k (by simp; omega), Lib.alloc_old _ _ k hk]
    refine ⟨rfl, hv, by simpa [Lib.byteCells] using hb.below b2, (keep _ (by omega)).trans n0, (keep _ (by omega)).trans n1, ?_, ?_, b2.mono hBw⟩
    · rw [← hs1, Lib.alloc_old _ _ _ (by simp)]; exact World.alloc_heap_new _ _
    · have := World.alloc_heap_new (w1.alloc (.deferred (some []))) (.loop (rec .ready none))
      rw [World.size_alloc, hs1] at this
      exact this
  rw [hs1]
  refine (wire_digits1 Fence.wide (3 - 1) trivial rfl (by decide) b B bs w0 v hv (.loop (rec .ready none)) hbw hB ?_ _ hJ).mono ?_
  · intro y d more out r W hd hW
    have hy := run_yield (P := Tryz.prog) (args := #[.int .u8 d, .bool more]) hW.2.2.2.2.2.2.1 (by rw [hrec]; rfl)
    rw [hrec] at hy
    dsimp only at hy
    have hl := hW.2.2.2.2.2.2.1
    have hs3 : w0.heap.size + 3 < W.heap.size := (Array.getElem?_eq_some_iff.1 hl).1
    have HL := aq hl
    have HR := aq hrec
    have HW := aq hW
    have HS := aq hs1
    have H1 := aq hw1
    refine ⟨fn, _, _, _, hy, roundIn_of_wpIn trivial ?_⟩
    clear hl hrec hy hW hs1 hw1
    gi_wp2
    refine ⟨_, run_beginRound HL.out (by rw [HR.out]), ?_⟩
    have hW := HW.out
    have hW2 := hW.putObj (.loop { rec .ready none with state := .busy }) (fun _ _ _ e => by cases e) hbw hB
    generalize hWW : W.putObj (w0.heap.size + 3) (.loop { rec .ready none with state := .busy }) = W2 at hW2 ⊢
    have hbox : W2.cell? ⟨w0.heap.size, 0, none⟩ = some (.pointer (some ⟨b, 0, none⟩)) := by rw [Lib.cell_of_heap hW2.2.2.2.1]; rfl
    have hlen2 : (bs ++ Lib.byteCells out).length + 1 ≤ 140737488355328 := by
      have h1 := congrArg List.length hW.1
      have h2 := wire_putL_ten v hv
      simp at h1
      rw [List.length_append, Lib.byteCells_length]
      omega
    have hl2 := aq hW2.2.2.2.2.2.2.1
    have HWW := aq hWW
    have HB2 := aq hW2
    have hsz : B ≤ W2.heap.size := by have := hW2.2.2.2.2.2.2.2.size; omega
    have hbd := hW2.2.2.1
    clear hWW hW2 hW
    have hor := wire_or_fin ⟨d, hd⟩
    simp only at hor
    cases more
    · gi_wp2_with (refine ⟨trivial, ?_⟩; gi_at_call 67; refine (CallsIn.inRound _ (callsIn_wide.2 (bld_writeByte (T := 99) (rest := []) (by decide) (by kernel_rfl) B b _ _ _ hbd hlen2 hsz))).mono ?_; rintro e W3 ⟨rfl, h3, hb3, hk3⟩)
      have h4 := NumJ.wrote (c := UInt8.ofNat (wire_mk d false)) HB2.out (fun _ _ _ e => by cases e) hbw (by rw [show ((UInt8.ofNat (wire_mk d false)).toNat : Int) = (d : Int) by simp [wire_mk]; omega]; exact h3) hb3 hk3
      have hl3 := h4.2.2.2.2.2.2.1
      refine ⟨_, _, run_endRound none hl3, rfl, ?_⟩
      have h5 := h4.putObj (.loop (rec .ready none)) (fun _ _ _ e => by cases e) hbw hB
      have e : ({ { rec .ready none with state := LoopState.busy } with state := if (none : Option Code).isNone then .ready else .done, pending := none } : Loop) = rec .ready none := by rw [HR.out]; rfl
      rw [e]
      exact h5
    · gi_wp2_with (refine ⟨trivial, ?_⟩; gi_at_call 67; refine (CallsIn.inRound _ (callsIn_wide.2 (bld_writeByte (T := 99) (rest := []) (by decide) (by kernel_rfl) B b _ _ _ hbd hlen2 hsz))).mono ?_; rintro e W3 ⟨rfl, h3, hb3, hk3⟩)
      have h4 := NumJ.wrote (c := UInt8.ofNat (wire_mk d true)) HB2.out (fun _ _ _ e => by cases e) hbw (by rw [show ((UInt8.ofNat (wire_mk d true)).toNat : Int) = (d : Int) + 128 by simp [wire_mk]; omega]; exact h3) hb3 hk3
      have hl3 := h4.2.2.2.2.2.2.1
      refine ⟨_, _, run_endRound none hl3, rfl, ?_⟩
      have h5 := h4.putObj (.loop (rec .ready none)) (fun _ _ _ e => by cases e) hbw hB
      have e : ({ { rec .ready none with state := LoopState.busy } with state := if (none : Option Code).isNone then .ready else .done, pending := none } : Loop) = rec .ready none := by rw [HR.out]; rfl
      rw [e]
      exact h5
  · rintro e W3 ⟨⟨x, rfl⟩, y, h3⟩
    have hl3 := h3.2.2.2.2.2.2.1
    refine ⟨(rec .ready none).pending, _, run_endLoop (P := Tryz.prog) hl3 (by rw [hrec]; simp), ?_⟩
    have h4 := h3.putObj (.loop { rec .ready none with state := .exhausted }) (fun _ _ _ e => by cases e) hbw hB
    have hpe : (rec .ready none).pending = none := by rw [hrec]
    generalize (W3.putObj (w0.heap.size + 3) (.loop { rec .ready none with state := .exhausted })) = W4 at h4 ⊢
    rw [hpe]
    have hK := h4.2.2.2.2.2.1
    have H4 := aq h4
    clear h3 h4 hl3 hpe hrec hJ hw1
    gi_wp2
    refine ⟨by simp, .inl ⟨_, _, rfl, run_takeDeferred hK, ?_⟩⟩
    refine ⟨_, results_none rfl _ _ _, rfl, ?_, ?_⟩
    · exact H4.out.2.2.1.move fun k _ hk => World.putObj_heap_other (by
        rintro rfl
        rcases hk with e | ⟨c, hc⟩
        · omega
        · rw [hK] at hc; cases hc)
    · exact H4.out.2.2.2.2.2.2.2.grown (grownBy_putObj' W4 (w0.heap.size + 2) _) (by have := H4.out.2.2.2.2.2.2.2.size; omega) (fun k e => by cases e; omega)
end
def wire_Put.f (a0 : Int) : Option ByteArray := if 0 ≤ a0 ∧ a0 < 18446744073709551616 then some ⟨(wire_putL a0.toNat).toArray⟩ else none
set_option maxHeartbeats 4000000 in
set_option maxRecDepth 100000 in
theorem wire_Put.calls (a0 : Int) (r : ByteArray) (w : World) (h : wire_Put.f a0 = some r) : Calls Tryz.prog 29 #[.int .u64 a0] w fun e w' => e = .returned (.string r) ∧ Below w.heap.size w w' := by
  unfold wire_Put.f at h
  split at h
  · rename_i ha
    obtain ⟨v, rfl⟩ := Int.eq_ofNat_of_zero_le ha.1
    obtain rfl := Option.some.inj h
    rw [Int.toNat_natCast]
    have hv : v < 18446744073709551616 := by omega
    have hn := bld_new 99 [] w
    have HN := aq hn
    clear hn h ha
    go_enter Tryz.func29, Tryz.ntmps29
    go_wp2_with (first | (go_at_call 50; refine (wire_number v w.heap.size w.heap.size [] _ hv HN.out (by simp) (by simp)).mono ?_; rintro e w1 ⟨rfl, hb1, hl1⟩) | (go_at_call 31; refine (bld_string (T := 99) (rest := []) w.heap.size w.heap.size (wire_putL v) _ hb1 (wire_putL_ne v)).mono ?_; rintro e w2 ⟨rfl, hl2⟩))
    go_ret
    exact ⟨rfl, ((Below.refl _ _).alloc (Nat.le_refl _) _).trans (hl1.trans hl2)⟩
  · cases h
def mask_again.l0 : Nat → Int → Int → Option (Int)
 | 0, _, _ => none
 | k + 1, x0, x1 => if x1 < 64 then (if 0 ≤ x1 then (mask_again.l0 k (Go.bits .or .u64 x0 (shl .u64 x0 x1)) (wrap64 (x1 * 2))) else (none)) else (some x0)
def mask_again.f (k : Nat) (a0 : Int) (a1 : Int) : Option (Int) := mask_again.l0 k a0 a1
set_option maxHeartbeats 8000000 in
set_option maxRecDepth 100000 in
theorem mask_again.calls (k : Nat) (a0 : Int) (a1 : Int) (r : Int) (w : World) (h : mask_again.f k a0 a1 = some r) :
    Calls Tryz.prog 255 #[.int .u64 a0, .int .i64 a1] w fun e w' => e = .returned (.int .u64 r) ∧ Drawn0 w w' := by
 have H : (mask_again.l0 k a0 a1) = some r := h
 clear h
 have H' := aq H
 clear H
 go_enter Tryz.func255, Tryz.ntmps255
 go_wp2
 go_loopg [0, 1] k (fun kq v0 v1 w' => ∃ (x0_1 : Int) (x1_1 : Int), v0 = .int .u64 x0_1 ∧ v1 = .int .i64 x1_1 ∧ Aside0 (mask_again.l0 kq x0_1 x1_1 = some r) ∧ Aside0 (kq ≤ k) ∧ Drawn0 w w')
 case atStart => exact ⟨(a0), (a1), (by first | rfl | (simp; done) | (simp [*]; done)), (by first | rfl | (simp; done) | (simp [*]; done)), H', ⟨Nat.le_refl _⟩, by repeat (first | exact Drawn0.refl _ | apply Drawn0.step)⟩
 case round =>
  clear H'
  try clear c2
  try clear p2
  obtain ⟨x0_1, x1_1, rfl, rfl, HA, HK1, ⟨m1, rfl⟩⟩ := hrel
  cases gk with
  | zero => exact absurd HA.out (by simp [mask_again.l0])
  | succ k1 =>
   have H := HA.out
   clear HA
   simp only [mask_again.l0] at H
   by_cases c3 : x1_1 < 64
   ·
    rw [if_pos c3] at H
    have c3b0 : decide (x1_1 < 64) = true := decide_eq_true c3
    clear c3
    by_cases c4 : 0 ≤ x1_1
    ·
     rw [if_pos c4] at H
     have c4b0 := eq_true c4
     have c4b1 : decide (0 ≤ x1_1) = true := decide_eq_true c4
     clear c4
     obtain ⟨ji5, hji5⟩ : ∃ j_ : Int, (shl .u64 x0_1 x1_1) = j_ := ⟨_, rfl⟩
     replace H : (mask_again.l0 k1 (Go.bits .or .u64 x0_1 (ji5)) (wrap64 (x1_1 * 2))) = some r := by first | (rw [hji5] at H; exact H) | (simp only [hji5] at H ⊢; exact H)
     have hji5_ : (IntKind.u64.wrap (x0_1 * 2 ^ min x1_1.toNat 64)) = ji5 := hji5
     have hji5z : x1_1 ≤ 64 → (IntKind.u64.wrap (x0_1 * 2 ^ x1_1.toNat)) = ji5 := shl_small hji5
     have H' := aq H
     clear H
     go_wp2
     go_roundg k1
     case measure => have := HK1.out; omega
     case rel => exact ⟨(Go.bits .or .u64 x0_1 (ji5)), (wrap64 (x1_1 * 2)), (by first | rfl | (simp; done) | (simp only [← hji5] <;> (first | rfl | simp)) | (simp [*]; done)), (by first | rfl | (simp; done) | (simp [*]; done)), H', ⟨by have := HK1.out; omega⟩, by repeat (first | exact Drawn0.refl _ | apply Drawn0.step)⟩
    ·
     rw [if_neg c4] at H
     exact absurd H (by simp)
   ·
    rw [if_neg c3] at H
    have c3b0 : decide (x1_1 < 64) = false := decide_eq_false c3
    clear c3
    obtain rfl := Option.some.inj H
    go_wp2
    go_ret
    exact ⟨by first | rfl | (simp; done) | (simp [*]; done), by repeat (first | exact Drawn0.refl _ | apply Drawn0.step)⟩
def bits_ones.f (a0 : Int) : Option (Int) := if a0 ≥ 64 then (some 18446744073709551615) else (if 0 ≤ a0 then (some (IntKind.u64.wrap ((shl .u64 1 a0) - 1))) else (none))
set_option maxHeartbeats 8000000 in
set_option maxRecDepth 100000 in
theorem bits_ones.calls (a0 : Int) (r : Int) (w : World) (h : bits_ones.f a0 = some r) :
    Calls Tryz.prog 157 #[.int .i64 a0] w fun e w' => e = .returned (.int .u64 r) ∧ Drawn0 w w' := by
 have H : (if a0 ≥ 64 then (some 18446744073709551615) else (if 0 ≤ a0 then (some (IntKind.u64.wrap ((shl .u64 1 a0) - 1))) else (none))) = some r := h
 clear h
 by_cases c2 : a0 ≥ 64
 ·
  rw [if_pos c2] at H
  have c2b0 : decide (64 ≤ a0) = true := decide_eq_true c2
  clear c2
  obtain rfl := Option.some.inj H
  go_enter Tryz.func157, Tryz.ntmps157
  go_wp2
  go_ret
  exact ⟨by first | rfl | (simp; done) | (simp [*]; done), by repeat (first | exact Drawn0.refl _ | apply Drawn0.step)⟩
 ·
  rw [if_neg c2] at H
  have c2b0 : decide (64 ≤ a0) = false := decide_eq_false c2
  clear c2
  by_cases c3 : 0 ≤ a0
  ·
   rw [if_pos c3] at H
   have c3b0 := eq_true c3
   have c3b1 : decide (0 ≤ a0) = true := decide_eq_true c3
   clear c3
   obtain ⟨ji4, hji4⟩ : ∃ j_ : Int, (shl .u64 1 a0) = j_ := ⟨_, rfl⟩
   replace H : (some (IntKind.u64.wrap ((ji4) - 1))) = some r := by first | (rw [hji4] at H; exact H) | (simp only [hji4] at H ⊢; exact H)
   have hji4_ : (IntKind.u64.wrap (1 * 2 ^ min a0.toNat 64)) = ji4 := hji4
   have hji4z : a0 ≤ 64 → (IntKind.u64.wrap (1 * 2 ^ a0.toNat)) = ji4 := shl_small hji4
   have hji4u : (IntKind.u64.wrap (2 ^ min a0.toNat 64)) = ji4 := by have h_ := hji4_; rw [Int.one_mul] at h_; exact h_
   have hji4v : a0 ≤ 64 → (IntKind.u64.wrap (2 ^ a0.toNat)) = ji4 := fun hle_ => by have h_ := hji4z hle_; rw [Int.one_mul] at h_; exact h_
   obtain rfl := Option.some.inj H
   go_enter Tryz.func157, Tryz.ntmps157
   go_wp2
   go_ret
   exact ⟨by first | rfl | (simp; done) | (simp only [← hji4] <;> (first | rfl | simp)) | (simp [*]; done), by repeat (first | exact Drawn0.refl _ | apply Drawn0.step)⟩
  ·
   rw [if_neg c3] at H
   exact absurd H (by simp)
def bits_Low.f (a0 : Int) (a1 : Int) : Option (Int) := (bits_ones.f (mn (mx a1 0) 64)).bind fun t101 => (some (Go.bits .and .u64 a0 t101))
set_option maxHeartbeats 8000000 in
set_option maxRecDepth 100000 in
theorem bits_Low.calls (a0 : Int) (a1 : Int) (r : Int) (w : World) (h : bits_Low.f a0 a1 = some r) :
    Calls Tryz.prog 111 #[.int .u64 a0, .int .i64 a1] w fun e w' => e = .returned (.int .u64 r) ∧ Below w.heap.size w w' := by
 have HB := aq (Below.refl w.heap.size w)
 have H : ((bits_ones.f (mn (mx a1 0) 64)).bind fun t101 => (some (Go.bits .and .u64 a0 t101))) = some r := h
 clear h
 obtain ⟨ji3, hji3⟩ : ∃ j_ : Int, (mx a1 0) = j_ := ⟨_, rfl⟩
 replace H : ((bits_ones.f (mn (ji3) 64)).bind fun t101 => (some (Go.bits .and .u64 a0 t101))) = some r := by first | (rw [hji3] at H; exact H) | (simp only [hji3] at H ⊢; exact H)
 (try (have hji3l : 0 ≤ ji3 := by (rw [← hji3]; unfold mx; (repeat' split) <;> omega)))
 (try (have hji3m : 0 ≤ ji3 := by omega))
 have hji3_ : (if a1 < 0 then 0 else a1) = ji3 := hji3
 obtain ⟨ji4, hji4⟩ : ∃ j_ : Int, (mn (ji3) 64) = j_ := ⟨_, rfl⟩
 replace H : ((bits_ones.f (ji4)).bind fun t101 => (some (Go.bits .and .u64 a0 t101))) = some r := by first | (rw [hji4] at H; exact H) | (simp only [hji4] at H ⊢; exact H)
 have hji4_ : (if 64 < (ji3) then 64 else (ji3)) = ji4 := hji4
 replace H := Option.bind_eq_some_iff.mp H
 obtain ⟨t101, A50, H⟩ := H
 replace H : (some (Go.bits .and .u64 a0 t101)) = some r := H
 have A5 := aq A50
 clear A50
 obtain rfl := Option.some.inj H
 go_enter Tryz.func111, Tryz.ntmps111
 go_wp2_with (first | ((with_reducible refine gate_callee (f := 157) rfl ?_); refine goesL_ (some 9) rfl rfl Tryz.func157 (by kernel_rfl) rfl #[.int .i64 ji4] rfl (by (try simp only [List.map_toArray, List.map_cons, List.map_nil]); first | done | (simp only [hji4]; rfl) | rfl | (simp only [List.length_drop, List.length_take]; rfl)) ?_; (with_reducible refine (bits_ones.calls ji4 t101 _ A5.out).mono ?_); rintro e w' ⟨rfl, ⟨nd, rfl⟩⟩; refine ⟨_, rfl, ?_⟩))
 go_ret
 exact ⟨by first | rfl | (simp [errW_none, errW_some] <;> rfl) | (simp only [← hji3, ← hji4]; first | rfl | (simp [errW_none, errW_some] <;> rfl)) | (simp [*, errW_none, errW_some] <;> rfl), by repeat (first | (with_reducible first | exact HB.out | apply below_alloc | apply pw_below_drewN | apply below_drew1) | exact HB.out)⟩
def mem_number.l0 : Nat → Int → List Int → Int → Int → Option (Int)
 | 0, _, _, _, _ => none
 | k + 1, x3, x6, x7, x8 => if x8 < x7 then (if 0 ≤ x8 then (if x8 < (x6.length : Int) then (if 0 ≤ (wrap64 (8 * x8)) then (mem_number.l0 k (Go.bits .or .u64 x3 (shl .u64 (IntKind.u64.wrap (rd x6 x8)) (wrap64 (8 * x8)))) x6 x7 (wrap64 (x8 + 1))) else (none)) else (none)) else (none)) else (some x3)
def mem_number.f (k : Nat) (l0 : List Int) : Option (Int) := mem_number.l0 k 0 l0 (l0.length : Int) 0
set_option maxHeartbeats 8000000 in
set_option maxRecDepth 100000 in
theorem mem_number.calls (k : Nat) (A0 : Option Addr) (c0 : Nat) (l0 : List Int) (r : Int) (w : World) (hr0 : Kd.C (Kd.int .u8) w A0 l0.length l0) (hc0 : l0.length ≤ c0) (h : mem_number.f k l0 = some r) :
    Calls Tryz.prog 47 #[.slice A0 l0.length c0] w fun e w' => e = .returned (.int .u64 r) ∧ Drawn0 w w' := by
 have HR0 := aq hr0
 have HC0 := aq hc0
 clear hr0 hc0
 have H : (mem_number.l0 k 0 l0 (l0.length : Int) 0) = some r := h
 clear h
 have H' := aq H
 clear H
 go_enter Tryz.func47, Tryz.ntmps47
 go_wp2
 go_loopg [3, 8] k (fun kq v3 v8 w' => ∃ (x3_1 : Int) (x8_1 : Int), v3 = .int .u64 x3_1 ∧ v8 = .int .i64 x8_1 ∧ Aside0 (mem_number.l0 kq x3_1 l0 (l0.length : Int) x8_1 = some r) ∧ Aside0 (kq ≤ k) ∧ Drawn0 w w')
 case atStart => exact ⟨(0), (0), (by first | rfl | (simp; done) | (simp [*]; done)), (by first | rfl | (simp; done) | (simp [*]; done)), H', ⟨Nat.le_refl _⟩, by repeat (first | exact Drawn0.refl _ | apply Drawn0.step)⟩
 case round =>
  clear H'
  obtain ⟨x3_1, x8_1, rfl, rfl, HA, HK1, ⟨m1, rfl⟩⟩ := hrel
  cases gk with
  | zero => exact absurd HA.out (by simp [mem_number.l0])
  | succ k1 =>
   have H := HA.out
   clear HA
   simp only [mem_number.l0] at H
   by_cases c2 : x8_1 < (l0.length : Int)
   ·
    rw [if_pos c2] at H
    have c2b0 : decide (x8_1 < (l0.length : Int)) = true := decide_eq_true c2
    clear c2
    by_cases c3 : 0 ≤ x8_1
    ·
     rw [if_pos c3] at H
     have c3b0 : decide (0 ≤ x8_1) = true := decide_eq_true c3
     clear c3
     by_cases c4 : x8_1 < (l0.length : Int)
     ·
      rw [if_pos c4] at H
      have c4b0 : decide (x8_1 < (l0.length : Int)) = true := decide_eq_true c4
      clear c4
      obtain ⟨ji5, hji5⟩ : ∃ j_ : Int, (wrap64 (8 * x8_1)) = j_ := ⟨_, rfl⟩
      replace H : (if 0 ≤ (ji5) then (mem_number.l0 k1 (Go.bits .or .u64 x3_1 (shl .u64 (IntKind.u64.wrap (rd l0 x8_1)) (ji5))) l0 (l0.length : Int) (wrap64 (x8_1 + 1))) else (none)) = some r := by first | (rw [hji5] at H; exact H) | (simp only [hji5] at H ⊢; exact H)
      have hji5w : (IntKind.i64.wrap (8 * x8_1)) = ji5 := (i64_w _).trans hji5
      by_cases c6 : 0 ≤ (ji5)
      ·
       rw [if_pos c6] at H
       have c6b0 := eq_true c6
       have c6b1 : decide (0 ≤ (ji5)) = true := decide_eq_true c6
       clear c6
       obtain ⟨ji7, hji7⟩ : ∃ j_ : Int, (shl .u64 (IntKind.u64.wrap (rd l0 x8_1)) (ji5)) = j_ := ⟨_, rfl⟩
       replace H : (mem_number.l0 k1 (Go.bits .or .u64 x3_1 (ji7)) l0 (l0.length : Int) (wrap64 (x8_1 + 1))) = some r := by first | (rw [hji7] at H; exact H) | (simp only [hji7] at H ⊢; exact H)
       have hji7_ : (IntKind.u64.wrap ((IntKind.u64.wrap (rd l0 x8_1)) * 2 ^ min (ji5).toNat 64)) = ji7 := hji7
       have hji7z : (ji5) ≤ 64 → (IntKind.u64.wrap ((IntKind.u64.wrap (rd l0 x8_1)) * 2 ^ (ji5).toNat)) = ji7 := shl_small hji7
       have H' := aq H
       clear H
       have p118 : 0 ≤ (x8_1 : Int) := of_decide_eq_true (by first | (with_reducible assumption) | assumption)
       have q118 : x8_1 < (l0.length : Int) := of_decide_eq_true (by first | (with_reducible assumption) | assumption)
       obtain ⟨ad118, e118, hx118_0⟩ := Kd.at_int HR0.out x8_1 p118 q118
       cases e118
       replace p118 := eq_true p118
       replace q118 := eq_true q118
       go_wp2
       go_roundg k1
       case measure => have := HK1.out; omega
       case rel => exact ⟨(Go.bits .or .u64 x3_1 (ji7)), (wrap64 (x8_1 + 1)), (by first | rfl | (simp; done) | (simp only [← hji7] <;> (first | rfl | simp)) | (simp [*]; done)), (by first | rfl | (simp; done) | (simp [*]; done)), H', ⟨by have := HK1.out; omega⟩, by repeat (first | exact Drawn0.refl _ | apply Drawn0.step)⟩
      ·
       rw [if_neg c6] at H
       exact absurd H (by simp)
     ·
      rw [if_neg c4] at H
      exact absurd H (by simp)
    ·
     rw [if_neg c3] at H
     exact absurd H (by simp)
   ·
    rw [if_neg c2] at H
    have c2b0 : decide (x8_1 < (l0.length : Int)) = false := decide_eq_false c2
    clear c2
    obtain rfl := Option.some.inj H
    go_wp2
    go_ret
    exact ⟨by first | rfl | (simp; done) | (simp [*]; done), by repeat (first | exact Drawn0.refl _ | apply Drawn0.step)⟩
theorem code_must.ok (w : World) : Calls Tryz.prog 102 #[.int .i64 0] w fun e w' => e = .returned (.tuple #[]) ∧ w = w' := by
  go_enter Tryz.func102, Tryz.ntmps102
  go_wp2
  go_end0
  exact ⟨rfl, rfl⟩
theorem code_must.bad (x : Int) (w : World) (h : x ≠ 0) : Calls Tryz.prog 102 #[.int .i64 x] w fun e w' => e = .panicked [{ v := .iface 27 (.int .i64 x), recovered := false }] ∧ w = w' := by
  have h1 : (x != 0) = true := by simpa using h
  go_enter Tryz.func102, Tryz.ntmps102
  go_wp2
  exact ⟨rfl, rfl, rfl⟩
def bits_right.f (a0 : Int) (a1 : Int) : Option (Bool) := if a0 ≥ 0 then (if a0 < 32 then (if a1 ≥ 1 then (some (decide (a1 ≤ (wrap64 (32 - a0))))) else (some false)) else (some false)) else (some false)
set_option maxHeartbeats 8000000 in
set_option maxRecDepth 100000 in
theorem bits_right.calls (a0 : Int) (a1 : Int) (r : Bool) (w : World) (h : bits_right.f a0 a1 = some r) :
    Calls Tryz.prog 156 #[.int .i64 a0, .int .i64 a1] w fun e w' => e = .returned (.bool r) ∧ Drawn0 w w' := by
 have H : (if a0 ≥ 0 then (if a0 < 32 then (if a1 ≥ 1 then (some (decide (a1 ≤ (wrap64 (32 - a0))))) else (some false)) else (some false)) else (some false)) = some r := h
 clear h
 by_cases c3 : a0 ≥ 0
 ·
  rw [if_pos c3] at H
  have c3b0 : decide (0 ≤ a0) = true := decide_eq_true c3
  clear c3
  by_cases c4 : a0 < 32
  ·
   rw [if_pos c4] at H
   have c4b0 : decide (a0 < 32) = true := decide_eq_true c4
   clear c4
   by_cases c5 : a1 ≥ 1
   ·
    rw [if_pos c5] at H
    have c5b0 : decide (1 ≤ a1) = true := decide_eq_true c5
    clear c5
    obtain rfl := Option.some.inj H
    go_enter Tryz.func156, Tryz.ntmps156
    go_wp2
    go_ret
    exact ⟨by first | rfl | (simp; done) | (simp [*]; done), by repeat (first | exact Drawn0.refl _ | apply Drawn0.step)⟩
   ·
    rw [if_neg c5] at H
    have c5b0 : decide (1 ≤ a1) = false := decide_eq_false c5
    clear c5
    obtain rfl := Option.some.inj H
    go_enter Tryz.func156, Tryz.ntmps156
    go_wp2
    go_ret
    exact ⟨by first | rfl | (simp; done) | (simp [*]; done), by repeat (first | exact Drawn0.refl _ | apply Drawn0.step)⟩
  ·
   rw [if_neg c4] at H
   have c4b0 : decide (a0 < 32) = false := decide_eq_false c4
   clear c4
   obtain rfl := Option.some.inj H
   go_enter Tryz.func156, Tryz.ntmps156
   go_wp2
   go_ret
   exact ⟨by first | rfl | (simp; done) | (simp [*]; done), by repeat (first | exact Drawn0.refl _ | apply Drawn0.step)⟩
 ·
  rw [if_neg c3] at H
  have c3b0 : decide (0 ≤ a0) = false := decide_eq_false c3
  clear c3
  obtain rfl := Option.some.inj H
  go_enter Tryz.func156, Tryz.ntmps156
  go_wp2
  go_ret
  exact ⟨by first | rfl | (simp; done) | (simp [*]; done), by repeat (first | exact Drawn0.refl _ | apply Drawn0.step)⟩
def bits_big (f : S231) : Option Bool := (bits_ones.f f.f1).bind fun r => some (decide (IntKind.u64.wrap f.f2 > r))
def bits_anyBig : List S231 → Option Bool
  | [] => some false
  | f :: l => (bits_big f).bind fun b => if b = true then some true else bits_anyBig l
def api_Field_251.f (l0 : List S231) : Option Bool := bits_anyBig l0
set_option maxHeartbeats 8000000 in
theorem bits_big.calls (f : S231) (r : Bool) (w : World) (h : bits_big f = some r) :
    Calls Tryz.prog 252 #[.agg #[.int .i64 f.f0, .int .i64 f.f1, .int .u32 f.f2]] w fun e w' => e = .returned (.bool r) ∧ Below w.heap.size w w' := by
  obtain ⟨r1, h1, h2⟩ := Option.bind_eq_some_iff.mp h
  obtain rfl := Option.some.inj h2
  clear h h2
  have HH := aq h1
  clear h1
  go_enter Tryz.func252, Tryz.ntmps252
  go_wp2
  go_quiet ((go_at_call 157; refine quiet_drawn (bits_ones.calls _ _ _ HH.out)))
  go_wp2
  go_ret
  exact ⟨rfl, by repeat (first | exact Below.refl _ _ | apply below_drew | apply pw_below_drewN | apply below_alloc)⟩
def IdxPost (r : Bool) (w : World) (e : Ending) (w' : World) : Prop := ∃ i : Int, e = .returned (.int .i64 i) ∧ decide (0 ≤ i) = r ∧ Below w.heap.size w w'
theorem anyBig_at (l : List S231) (k : Nat) (h : k < l.length) : bits_anyBig (l.drop k) = (bits_big (rd_T231 l k)).bind fun b => if b = true then some true else bits_anyBig (l.drop (k + 1)) := by
  have e : rd_T231 l (k : Int) = l[k] := by unfold rd_T231; rw [Int.toNat_natCast]; simp [List.getD, h]
  rw [List.drop_eq_getElem_cons h, e]; rfl
set_option maxHeartbeats 8000000 in
theorem bits_index.calls (A0 : Option Addr) (c0 : Nat) (l0 : List S231) (r : Bool) (w : World) (hr0 : Kd.C k231 w A0 l0.length l0) (h : bits_anyBig l0 = some r) :
    Calls Tryz.prog 267 #[.slice A0 l0.length c0, .func (.func 252) #[] #[]] w (IdxPost r w) := by
  have hm := Kd.C_max hr0
  have HR := aq hr0
  clear hr0
  have HH := aq h
  clear h
  go_enter Tryz.func267, Tryz.ntmps267
  go_wp2
  go_loopw [8] (fun v8 wr => ∃ k : Nat, k ≤ l0.length ∧ v8 = .int .i64 k ∧ Aside0 (bits_anyBig (l0.drop k) = some r) ∧ Below w.heap.size w wr) (fun v8 _ => l0.length - (intOf v8).toNat)
  case atStart => exact ⟨0, Nat.zero_le _, rfl, HH, Below.refl _ _⟩
  case round =>
    obtain ⟨k, hk, rfl, HA, hb⟩ := hrel
    by_cases hlt : k < l0.length
    · have H := HA.out
      rw [anyBig_at l0 k hlt] at H
      obtain ⟨b, h1, h2⟩ := Option.bind_eq_some_iff.mp H
      clear H HA
      obtain ⟨ad, e1, hx0, hx1, hx2⟩ := at_T231 (Kd.C_below HR.out hb) (k : Int) (by omega) (by omega)
      cases e1
      rw [Int.toNat_natCast] at hx0 hx1 hx2
      have HB1 := aq h1
      have HB2 := aq h2
      clear h1 h2
      cases b
      · go_wp2_with (first | (go_at_call 252; refine (bits_big.calls (rd_T231 l0 k) false _ HB1.out).mono ?_; rintro e w1 ⟨rfl, hb1⟩))
        go_roundw
        case rel => exact ⟨k + 1, by omega, by go_num, ⟨by simpa using HB2.out⟩, below_then hb hb.size hb1⟩
        case measure => simp [intOf]; omega
      · have hr : r = true := by simpa using HB2.out.symm
        go_wp2_with (first | (go_at_call 252; refine (bits_big.calls (rd_T231 l0 k) true _ HB1.out).mono ?_; rintro e w1 ⟨rfl, hb1⟩))
        go_ret
        exact ⟨(k : Int), rfl, by rw [hr]; simp, below_then hb hb.size hb1⟩
    · have hr : r = false := by
        have H := HA.out
        rw [List.drop_of_length_le (by omega)] at H
        simpa [bits_anyBig] using H.symm
      go_wp2
      go_ret
      exact ⟨-1, rfl, by rw [hr]; simp, hb⟩
set_option maxHeartbeats 8000000 in
theorem api_Field_251.calls (A0 : Option Addr) (c0 : Nat) (l0 : List S231) (r : Bool) (w : World) (hr0 : Kd.C k231 w A0 l0.length l0) (hc0 : l0.length ≤ c0) (h : api_Field_251.f l0 = some r) :
    Calls Tryz.prog 251 #[.slice A0 l0.length c0, .func (.func 252) #[] #[]] w fun e w' => e = .returned (.bool r) ∧ Below w.heap.size w w' := by
  have HR := aq hr0
  clear hr0
  have HH := aq h
  clear h
  go_enter Tryz.func251, Tryz.ntmps251
  go_wp2_with (first | (go_at_call 267; refine (bits_index.calls A0 c0 l0 r _ HR.out HH.out).mono ?_; rintro e w1 ⟨i, rfl, hi, hb⟩))
  go_ret
  exact ⟨by rw [← hi]; rfl, hb⟩
mutual
def bits_Word.l0 : Nat → List (S231) → Int → List (S231) → Int → Int → Option (Int × Int)
 | 0, _, _, _, _, _ => none
 | k + 1, x0, x4, x10, x11, x12 => if x12 < x11 then (if 0 ≤ x12 then (if x12 < (x10.length : Int) then ((bits_right.f ((rd_T231 x10 x12).f0) ((rd_T231 x10 x12).f1)).bind fun t121 => (if t121 = true then ((bits_ones.f ((rd_T231 x10 x12).f1)).bind fun t122 => (if 0 ≤ ((rd_T231 x10 x12).f0) then (if (Go.bits .and .u64 x4 (shl .u64 t122 ((rd_T231 x10 x12).f0))) = 0 then (bits_Word.l0 k x0 (Go.bits .or .u64 x4 (shl .u64 t122 ((rd_T231 x10 x12).f0))) x10 x11 (wrap64 (x12 + 1))) else (some (0, 1))) else (none))) else (some (0, 1)))) else (none)) else (none)) else ((api_Field_251.f x0).bind fun t123 => (if t123 = true then (some (0, 4)) else (bits_Word.l1 k 0 x0 (x0.length : Int) 0)))
def bits_Word.l1 : Nat → Int → List (S231) → Int → Int → Option (Int × Int)
 | 0, _, _, _, _ => none
 | k + 1, x7, x44, x45, x46 => if x46 < x45 then (if 0 ≤ x46 then (if x46 < (x44.length : Int) then (if 0 ≤ ((rd_T231 x44 x46).f0) then (bits_Word.l1 k (Go.bits .or .u32 x7 (shl .u32 ((rd_T231 x44 x46).f2) ((rd_T231 x44 x46).f0))) x44 x45 (wrap64 (x46 + 1))) else (none)) else (none)) else (none)) else (some (x7, 0))
end
def bits_Word.f (k : Nat) (l0 : List (S231)) : Option (Int × Int) := bits_Word.l0 k l0 0 l0 (l0.length : Int) 0
set_option maxHeartbeats 8000000 in
set_option maxRecDepth 100000 in
theorem bits_Word.calls (k : Nat) (A0 : Option Addr) (c0 : Nat) (l0 : List (S231)) (r1 : Int) (r2 : Int) (w : World) (hr0 : Kd.C k231 w A0 l0.length l0) (hc0 : l0.length ≤ c0) (h : bits_Word.f k l0 = some (r1, r2)) :
    Calls Tryz.prog 192 #[.slice A0 l0.length c0] w fun e w' => e = .returned (.tuple #[.int .u32 r1, .int .i64 r2]) ∧ Below w.heap.size w w' := by
 have hu231 := Tryz.underlying231
 have HR0 := aq hr0
 have HC0 := aq hc0
 clear hr0 hc0
 have HB := aq (Below.refl w.heap.size w)
 have H : (bits_Word.l0 k l0 0 l0 (l0.length : Int) 0) = some (r1, r2) := h
 clear h
 have H' := aq H
 clear H
 go_enter Tryz.func192, Tryz.ntmps192
 go_wp2
 repeat (go_quiet (fail); try go_wp2)
 go_loopg [4, 12] k (fun kq v4 v12 w' => ∃ (x4_1 : Int) (x12_1 : Int), v4 = .int .u64 x4_1 ∧ v12 = .int .i64 x12_1 ∧ Aside0 (bits_Word.l0 kq l0 x4_1 l0 (l0.length : Int) x12_1 = some (r1, r2)) ∧ Aside0 (kq ≤ k) ∧ Aside0 (Below w.heap.size w w'))
 case atStart => exact ⟨(0), (0), (by first | rfl | (simp; done) | (simp [*]; done)), (by first | rfl | (simp; done) | (simp [*]; done)), H', ⟨Nat.le_refl _⟩, ⟨by repeat (first | (with_reducible first | exact HB.out | apply below_alloc | apply pw_below_drewN | apply below_drew1) | exact HB.out)⟩⟩
 case round =>
  clear H'
  try clear c1
  obtain ⟨x4_1, x12_1, rfl, rfl, HA, HK1, HB⟩ := hrel
  cases gk with
  | zero => exact absurd HA.out (by simp [bits_Word.l0])
  | succ k1 =>
   have H := HA.out
   clear HA
   simp only [bits_Word.l0] at H
   by_cases c2 : x12_1 < (l0.length : Int)
   ·
    rw [if_pos c2] at H
    have c2b0 : decide (x12_1 < (l0.length : Int)) = true := decide_eq_true c2
    clear c2
    by_cases c3 : 0 ≤ x12_1
    ·
     rw [if_pos c3] at H
     have c3b0 : decide (0 ≤ x12_1) = true := decide_eq_true c3
     clear c3
     by_cases c4 : x12_1 < (l0.length : Int)
     ·
      rw [if_pos c4] at H
      have c4b0 : decide (x12_1 < (l0.length : Int)) = true := decide_eq_true c4
      clear c4
      replace H := Option.bind_eq_some_iff.mp H
      obtain ⟨t121, A50, H⟩ := H
      replace H : (if t121 = true then ((bits_ones.f ((rd_T231 l0 x12_1).f1)).bind fun t122 => (if 0 ≤ ((rd_T231 l0 x12_1).f0) then (if (Go.bits .and .u64 x4_1 (shl .u64 t122 ((rd_T231 l0 x12_1).f0))) = 0 then (bits_Word.l0 k1 l0 (Go.bits .or .u64 x4_1 (shl .u64 t122 ((rd_T231 l0 x12_1).f0))) l0 (l0.length : Int) (wrap64 (x12_1 + 1))) else (some (0, 1))) else (none))) else (some (0, 1))) = some (r1, r2) := H
      have A5 := aq A50
      clear A50
      by_cases c6 : t121 = true
      ·
       subst c6
       have H1 : ((bits_ones.f ((rd_T231 l0 x12_1).f1)).bind fun t122 => (if 0 ≤ ((rd_T231 l0 x12_1).f0) then (if (Go.bits .and .u64 x4_1 (shl .u64 t122 ((rd_T231 l0 x12_1).f0))) = 0 then (bits_Word.l0 k1 l0 (Go.bits .or .u64 x4_1 (shl .u64 t122 ((rd_T231 l0 x12_1).f0))) l0 (l0.length : Int) (wrap64 (x12_1 + 1))) else (some (0, 1))) else (none))) = some (r1, r2) := by rw [if_pos rfl] at H; exact H
       clear H
       have H := H1
       clear H1
       replace H := Option.bind_eq_some_iff.mp H
       obtain ⟨t122, A70, H⟩ := H
       replace H : (if 0 ≤ ((rd_T231 l0 x12_1).f0) then (if (Go.bits .and .u64 x4_1 (shl .u64 t122 ((rd_T231 l0 x12_1).f0))) = 0 then (bits_Word.l0 k1 l0 (Go.bits .or .u64 x4_1 (shl .u64 t122 ((rd_T231 l0 x12_1).f0))) l0 (l0.length : Int) (wrap64 (x12_1 + 1))) else (some (0, 1))) else (none)) = some (r1, r2) := H
       have A7 := aq A70
       clear A70
       by_cases c8 : 0 ≤ ((rd_T231 l0 x12_1).f0)
       ·
        rw [if_pos c8] at H
        have c8b0 := eq_true c8
        have c8b1 : decide (0 ≤ ((rd_T231 l0 x12_1).f0)) = true := decide_eq_true c8
        clear c8
        obtain ⟨ji9, hji9⟩ : ∃ j_ : Int, (shl .u64 t122 ((rd_T231 l0 x12_1).f0)) = j_ := ⟨_, rfl⟩
        replace H : (if (Go.bits .and .u64 x4_1 (ji9)) = 0 then (bits_Word.l0 k1 l0 (Go.bits .or .u64 x4_1 (ji9)) l0 (l0.length : Int) (wrap64 (x12_1 + 1))) else (some (0, 1))) = some (r1, r2) := by first | (rw [hji9] at H; exact H) | (simp only [hji9] at H ⊢; exact H)
        (try rw [hji9] at A5)
        (try rw [hji9] at A7)
        have hji9_ : (IntKind.u64.wrap (t122 * 2 ^ min ((rd_T231 l0 x12_1).f0).toNat 64)) = ji9 := hji9
        have hji9z : ((rd_T231 l0 x12_1).f0) ≤ 64 → (IntKind.u64.wrap (t122 * 2 ^ ((rd_T231 l0 x12_1).f0).toNat)) = ji9 := shl_small hji9
        by_cases c10 : (Go.bits .and .u64 x4_1 (ji9)) = 0
        ·
         rw [if_pos c10] at H
         have c10b0 : ((Go.bits .and .u64 x4_1 (ji9)) == 0) = true := beq_iff_eq.mpr c10
         have c10b1 : ((Go.bits .and .u64 x4_1 (ji9)) != 0) = false := bne_eq_false_iff_eq.mpr c10
         clear c10
         have c11b0 := eq_true (of_decide_eq_true (by first | (with_reducible assumption) | assumption) : 0 ≤ ((rd_T231 l0 x12_1).f0))
         have H' := aq H
         clear H
         have p119 : 0 ≤ (x12_1 : Int) := of_decide_eq_true (by first | (with_reducible assumption) | assumption)
         have q119 : x12_1 < (l0.length : Int) := of_decide_eq_true (by first | (with_reducible assumption) | assumption)
         obtain ⟨ad119, e119, hx119_0, hx119_1, hx119_2⟩ := at_T231 HR0.out x12_1 p119 q119
         cases e119
         replace hx119_0 := (HB.out.cell (World.block_lt_of_cell? w _ hx119_0)).trans hx119_0
         replace hx119_1 := (HB.out.cell (World.block_lt_of_cell? w _ hx119_1)).trans hx119_1
         replace hx119_2 := (HB.out.cell (World.block_lt_of_cell? w _ hx119_2)).trans hx119_2
         replace p119 := eq_true p119
         replace q119 := eq_true q119
         go_wp2_with (first | ((with_reducible refine gate_dst (N := 6) rfl ?_); refine box_event ?hg (N := 6) ?hd (cs := #[.int .i64 0, .int .i64 0, .int .u32 0]) (t := 231) ?hr ?_; (case hd => rfl); (case hg => rfl); (case hr => first | (go_simp; done) | (go_simp; rfl)); intro gb120 hg w12 hbox hb; have n0_ := aq (below_step (by repeat (first | (with_reducible first | exact HB.out | apply below_alloc | apply pw_below_drewN | apply below_drew1) | exact HB.out)) hb); have n1_ := aq (hbox); have n2_ := aq ((by rw [hg]; exact (below_size (by repeat (first | (with_reducible first | exact HB.out | apply below_alloc | apply pw_below_drewN | apply below_drew1) | exact HB.out))) : w.heap.size ≤ gb120)); have n3_ := aq ((by rw [hg]; exact (below_size (by repeat (first | (with_reducible first | exact HB.out | apply below_alloc | apply pw_below_drewN | apply below_drew1) | exact HB.out))) : w.heap.size ≤ gb120)); clear HB; have HB := n0_; have BK120 := n1_; have GW120 := n2_; have GE120 := n3_; clear n0_ n1_ n2_ n3_; clear hb hbox hg; obtain ⟨hcz13_0, hcz13_1, hcz13_2⟩ := cells3_ BK120.out; have hfz13_0 := fun j => blk_frozen BK120.out j) | (go_at_call 156; (with_reducible refine (bits_right.calls ((rd_T231 l0 x12_1).f0) ((rd_T231 l0 x12_1).f1) true _ A5.out).mono ?_); rintro e w' ⟨rfl, ⟨nd, rfl⟩⟩; (try first | exact ⟨rfl, _, World.drewN_drewN _ _ _⟩ | exact ⟨rfl, _, Eq.trans (World.drewN_drewN _ _ _) (congrArg (World.drewN _) (Nat.add_assoc _ _ _))⟩)) | (go_at_call 157; (with_reducible refine (bits_ones.calls ((rd_T231 l0 x12_1).f1) t122 _ A7.out).mono ?_); rintro e w' ⟨rfl, ⟨nd, rfl⟩⟩; (try first | exact ⟨rfl, _, World.drewN_drewN _ _ _⟩ | exact ⟨rfl, _, Eq.trans (World.drewN_drewN _ _ _) (congrArg (World.drewN _) (Nat.add_assoc _ _ _))⟩)))
         repeat (go_quiet (first | ((with_reducible refine gate_dst (N := 6) rfl ?_); refine box_event ?hg (N := 6) ?hd (cs := #[.int .i64 0, .int .i64 0, .int .u32 0]) (t := 231) ?hr ?_; (case hd => rfl); (case hg => rfl); (case hr => first | (go_simp; done) | (go_simp; rfl)); intro gb120 hg w12 hbox hb; have n0_ := aq (below_step (by repeat (first | (with_reducible first | exact HB.out | apply below_alloc | apply pw_below_drewN | apply below_drew1) | exact HB.out)) hb); have n1_ := aq (hbox); have n2_ := aq ((by rw [hg]; exact (below_size (by repeat (first | (with_reducible first | exact HB.out | apply below_alloc | apply pw_below_drewN | apply below_drew1) | exact HB.out))) : w.heap.size ≤ gb120)); have n3_ := aq ((by rw [hg]; exact (below_size (by repeat (first | (with_reducible first | exact HB.out | apply below_alloc | apply pw_below_drewN | apply below_drew1) | exact HB.out))) : w.heap.size ≤ gb120)); clear HB; have HB := n0_; have BK120 := n1_; have GW120 := n2_; have GE120 := n3_; clear n0_ n1_ n2_ n3_; clear hb hbox hg; obtain ⟨hcz13_0, hcz13_1, hcz13_2⟩ := cells3_ BK120.out; have hfz13_0 := fun j => blk_frozen BK120.out j) | (go_at_call 156; (with_reducible refine (bits_right.calls ((rd_T231 l0 x12_1).f0) ((rd_T231 l0 x12_1).f1) true _ A5.out).mono ?_); rintro e w' ⟨rfl, ⟨nd, rfl⟩⟩; (try first | exact ⟨rfl, _, World.drewN_drewN _ _ _⟩ | exact ⟨rfl, _, Eq.trans (World.drewN_drewN _ _ _) (congrArg (World.drewN _) (Nat.add_assoc _ _ _))⟩)) | (go_at_call 157; (with_reducible refine (bits_ones.calls ((rd_T231 l0 x12_1).f1) t122 _ A7.out).mono ?_); rintro e w' ⟨rfl, ⟨nd, rfl⟩⟩; (try first | exact ⟨rfl, _, World.drewN_drewN _ _ _⟩ | exact ⟨rfl, _, Eq.trans (World.drewN_drewN _ _ _) (congrArg (World.drewN _) (Nat.add_assoc _ _ _))⟩))); try go_wp2_with (first | ((with_reducible refine gate_dst (N := 6) rfl ?_); refine box_event ?hg (N := 6) ?hd (cs := #[.int .i64 0, .int .i64 0, .int .u32 0]) (t := 231) ?hr ?_; (case hd => rfl); (case hg => rfl); (case hr => first | (go_simp; done) | (go_simp; rfl)); intro gb120 hg w12 hbox hb; have n0_ := aq (below_step (by repeat (first | (with_reducible first | exact HB.out | apply below_alloc | apply pw_below_drewN | apply below_drew1) | exact HB.out)) hb); have n1_ := aq (hbox); have n2_ := aq ((by rw [hg]; exact (below_size (by repeat (first | (with_reducible first | exact HB.out | apply below_alloc | apply pw_below_drewN | apply below_drew1) | exact HB.out))) : w.heap.size ≤ gb120)); have n3_ := aq ((by rw [hg]; exact (below_size (by repeat (first | (with_reducible first | exact HB.out | apply below_alloc | apply pw_below_drewN | apply below_drew1) | exact HB.out))) : w.heap.size ≤ gb120)); clear HB; have HB := n0_; have BK120 := n1_; have GW120 := n2_; have GE120 := n3_; clear n0_ n1_ n2_ n3_; clear hb hbox hg; obtain ⟨hcz13_0, hcz13_1, hcz13_2⟩ := cells3_ BK120.out; have hfz13_0 := fun j => blk_frozen BK120.out j) | (go_at_call 156; (with_reducible refine (bits_right.calls ((rd_T231 l0 x12_1).f0) ((rd_T231 l0 x12_1).f1) true _ A5.out).mono ?_); rintro e w' ⟨rfl, ⟨nd, rfl⟩⟩; (try first | exact ⟨rfl, _, World.drewN_drewN _ _ _⟩ | exact ⟨rfl, _, Eq.trans (World.drewN_drewN _ _ _) (congrArg (World.drewN _) (Nat.add_assoc _ _ _))⟩)) | (go_at_call 157; (with_reducible refine (bits_ones.calls ((rd_T231 l0 x12_1).f1) t122 _ A7.out).mono ?_); rintro e w' ⟨rfl, ⟨nd, rfl⟩⟩; (try first | exact ⟨rfl, _, World.drewN_drewN _ _ _⟩ | exact ⟨rfl, _, Eq.trans (World.drewN_drewN _ _ _) (congrArg (World.drewN _) (Nat.add_assoc _ _ _))⟩))))
         go_roundg k1
         case measure => have := HK1.out; omega
         case rel => exact ⟨(Go.bits .or .u64 x4_1 (ji9)), (wrap64 (x12_1 + 1)), (by first | rfl | (simp; done) | (simp only [← hji9] <;> (first | rfl | simp)) | (simp [*]; done)), (by first | rfl | (simp; done) | (simp [*]; done)), H', ⟨by have := HK1.out; omega⟩, ⟨by repeat (first | (with_reducible first | exact HB.out | apply below_alloc | apply pw_below_drewN | apply below_drew1 | refine below_set ?_ GE120.out) | exact HB.out)⟩⟩
        ·
         rw [if_neg c10] at H
         have c10b0 : ((Go.bits .and .u64 x4_1 (ji9)) == 0) = false := beq_eq_false_iff_ne.mpr c10
         have c10b1 : ((Go.bits .and .u64 x4_1 (ji9)) != 0) = true := bne_iff_ne.mpr c10
         simp only [Option.some.injEq, Prod.mk.injEq] at H
         obtain ⟨rfl, rfl⟩ := H
         have p119 : 0 ≤ (x12_1 : Int) := of_decide_eq_true (by first | (with_reducible assumption) | assumption)
         have q119 : x12_1 < (l0.length : Int) := of_decide_eq_true (by first | (with_reducible assumption) | assumption)
         obtain ⟨ad119, e119, hx119_0, hx119_1, hx119_2⟩ := at_T231 HR0.out x12_1 p119 q119
         cases e119
         replace hx119_0 := (HB.out.cell (World.block_lt_of_cell? w _ hx119_0)).trans hx119_0
         replace hx119_1 := (HB.out.cell (World.block_lt_of_cell? w _ hx119_1)).trans hx119_1
         replace hx119_2 := (HB.out.cell (World.block_lt_of_cell? w _ hx119_2)).trans hx119_2
         replace p119 := eq_true p119
         replace q119 := eq_true q119
         go_wp2_with (first | ((with_reducible refine gate_dst (N := 6) rfl ?_); refine box_event ?hg (N := 6) ?hd (cs := #[.int .i64 0, .int .i64 0, .int .u32 0]) (t := 231) ?hr ?_; (case hd => rfl); (case hg => rfl); (case hr => first | (go_simp; done) | (go_simp; rfl)); intro gb120 hg w14 hbox hb; have n0_ := aq (below_step (by repeat (first | (with_reducible first | exact HB.out | apply below_alloc | apply pw_below_drewN | apply below_drew1) | exact HB.out)) hb); have n1_ := aq (hbox); have n2_ := aq ((by rw [hg]; exact (below_size (by repeat (first | (with_reducible first | exact HB.out | apply below_alloc | apply pw_below_drewN | apply below_drew1) | exact HB.out))) : w.heap.size ≤ gb120)); have n3_ := aq ((by rw [hg]; exact (below_size (by repeat (first | (with_reducible first | exact HB.out | apply below_alloc | apply pw_below_drewN | apply below_drew1) | exact HB.out))) : w.heap.size ≤ gb120)); clear HB; have HB := n0_; have BK120 := n1_; have GW120 := n2_; have GE120 := n3_; clear n0_ n1_ n2_ n3_; clear hb hbox hg; obtain ⟨hcz15_0, hcz15_1, hcz15_2⟩ := cells3_ BK120.out; have hfz15_0 := fun j => blk_frozen BK120.out j) | (go_at_call 156; (with_reducible refine (bits_right.calls ((rd_T231 l0 x12_1).f0) ((rd_T231 l0 x12_1).f1) true _ A5.out).mono ?_); rintro e w' ⟨rfl, ⟨nd, rfl⟩⟩; (try first | exact ⟨rfl, _, World.drewN_drewN _ _ _⟩ | exact ⟨rfl, _, Eq.trans (World.drewN_drewN _ _ _) (congrArg (World.drewN _) (Nat.add_assoc _ _ _))⟩)) | (go_at_call 157; (with_reducible refine (bits_ones.calls ((rd_T231 l0 x12_1).f1) t122 _ A7.out).mono ?_); rintro e w' ⟨rfl, ⟨nd, rfl⟩⟩; (try first | exact ⟨rfl, _, World.drewN_drewN _ _ _⟩ | exact ⟨rfl, _, Eq.trans (World.drewN_drewN _ _ _) (congrArg (World.drewN _) (Nat.add_assoc _ _ _))⟩)))
         repeat (go_quiet (first | ((with_reducible refine gate_dst (N := 6) rfl ?_); refine box_event ?hg (N := 6) ?hd (cs := #[.int .i64 0, .int .i64 0, .int .u32 0]) (t := 231) ?hr ?_; (case hd => rfl); (case hg => rfl); (case hr => first | (go_simp; done) | (go_simp; rfl)); intro gb120 hg w14 hbox hb; have n0_ := aq (below_step (by repeat (first | (with_reducible first | exact HB.out | apply below_alloc | apply pw_below_drewN | apply below_drew1) | exact HB.out)) hb); have n1_ := aq (hbox); have n2_ := aq ((by rw [hg]; exact (below_size (by repeat (first | (with_reducible first | exact HB.out | apply below_alloc | apply pw_below_drewN | apply below_drew1) | exact HB.out))) : w.heap.size ≤ gb120)); have n3_ := aq ((by rw [hg]; exact (below_size (by repeat (first | (with_reducible first | exact HB.out | apply below_alloc | apply pw_below_drewN | apply below_drew1) | exact HB.out))) : w.heap.size ≤ gb120)); clear HB; have HB := n0_; have BK120 := n1_; have GW120 := n2_; have GE120 := n3_; clear n0_ n1_ n2_ n3_; clear hb hbox hg; obtain ⟨hcz15_0, hcz15_1, hcz15_2⟩ := cells3_ BK120.out; have hfz15_0 := fun j => blk_frozen BK120.out j) | (go_at_call 156; (with_reducible refine (bits_right.calls ((rd_T231 l0 x12_1).f0) ((rd_T231 l0 x12_1).f1) true _ A5.out).mono ?_); rintro e w' ⟨rfl, ⟨nd, rfl⟩⟩; (try first | exact ⟨rfl, _, World.drewN_drewN _ _ _⟩ | exact ⟨rfl, _, Eq.trans (World.drewN_drewN _ _ _) (congrArg (World.drewN _) (Nat.add_assoc _ _ _))⟩)) | (go_at_call 157; (with_reducible refine (bits_ones.calls ((rd_T231 l0 x12_1).f1) t122 _ A7.out).mono ?_); rintro e w' ⟨rfl, ⟨nd, rfl⟩⟩; (try first | exact ⟨rfl, _, World.drewN_drewN _ _ _⟩ | exact ⟨rfl, _, Eq.trans (World.drewN_drewN _ _ _) (congrArg (World.drewN _) (Nat.add_assoc _ _ _))⟩))); try go_wp2_with (first | ((with_reducible refine gate_dst (N := 6) rfl ?_); refine box_event ?hg (N := 6) ?hd (cs := #[.int .i64 0, .int .i64 0, .int .u32 0]) (t := 231) ?hr ?_; (case hd => rfl); (case hg => rfl); (case hr => first | (go_simp; done) | (go_simp; rfl)); intro gb120 hg w14 hbox hb; have n0_ := aq (below_step (by repeat (first | (with_reducible first | exact HB.out | apply below_alloc | apply pw_below_drewN | apply below_drew1) | exact HB.out)) hb); have n1_ := aq (hbox); have n2_ := aq ((by rw [hg]; exact (below_size (by repeat (first | (with_reducible first | exact HB.out | apply below_alloc | apply pw_below_drewN | apply below_drew1) | exact HB.out))) : w.heap.size ≤ gb120)); have n3_ := aq ((by rw [hg]; exact (below_size (by repeat (first | (with_reducible first | exact HB.out | apply below_alloc | apply pw_below_drewN | apply below_drew1) | exact HB.out))) : w.heap.size ≤ gb120)); clear HB; have HB := n0_; have BK120 := n1_; have GW120 := n2_; have GE120 := n3_; clear n0_ n1_ n2_ n3_; clear hb hbox hg; obtain ⟨hcz15_0, hcz15_1, hcz15_2⟩ := cells3_ BK120.out; have hfz15_0 := fun j => blk_frozen BK120.out j) | (go_at_call 156; (with_reducible refine (bits_right.calls ((rd_T231 l0 x12_1).f0) ((rd_T231 l0 x12_1).f1) true _ A5.out).mono ?_); rintro e w' ⟨rfl, ⟨nd, rfl⟩⟩; (try first | exact ⟨rfl, _, World.drewN_drewN _ _ _⟩ | exact ⟨rfl, _, Eq.trans (World.drewN_drewN _ _ _) (congrArg (World.drewN _) (Nat.add_assoc _ _ _))⟩)) | (go_at_call 157; (with_reducible refine (bits_ones.calls ((rd_T231 l0 x12_1).f1) t122 _ A7.out).mono ?_); rintro e w' ⟨rfl, ⟨nd, rfl⟩⟩; (try first | exact ⟨rfl, _, World.drewN_drewN _ _ _⟩ | exact ⟨rfl, _, Eq.trans (World.drewN_drewN _ _ _) (congrArg (World.drewN _) (Nat.add_assoc _ _ _))⟩))))
         go_ret2
         exact ⟨by first | rfl | (simp [errW_none, errW_some] <;> rfl) | (simp only [← hji9]; first | rfl | (simp [errW_none, errW_some] <;> rfl)) | (simp [*, errW_none, errW_some] <;> rfl), by repeat (first | (with_reducible first | exact HB.out | apply below_alloc | apply pw_below_drewN | apply below_drew1 | refine below_set ?_ GE120.out) | exact HB.out)⟩
       ·
        rw [if_neg c8] at H
        exact absurd H (by simp)
      ·
       replace c6 := Bool.eq_false_iff.mpr c6
       subst c6
       have H1 : (some (0, 1)) = some (r1, r2) := by rw [if_neg (show ¬ (false = true) by decide)] at H; exact H
       clear H
       have H := H1
       clear H1
       simp only [Option.some.injEq, Prod.mk.injEq] at H
       obtain ⟨rfl, rfl⟩ := H
       have p119 : 0 ≤ (x12_1 : Int) := of_decide_eq_true (by first | (with_reducible assumption) | assumption)
       have q119 : x12_1 < (l0.length : Int) := of_decide_eq_true (by first | (with_reducible assumption) | assumption)
       obtain ⟨ad119, e119, hx119_0, hx119_1, hx119_2⟩ := at_T231 HR0.out x12_1 p119 q119
       cases e119
       replace hx119_0 := (HB.out.cell (World.block_lt_of_cell? w _ hx119_0)).trans hx119_0
       replace hx119_1 := (HB.out.cell (World.block_lt_of_cell? w _ hx119_1)).trans hx119_1
       replace hx119_2 := (HB.out.cell (World.block_lt_of_cell? w _ hx119_2)).trans hx119_2
       replace p119 := eq_true p119
       replace q119 := eq_true q119
       go_wp2_with (first | ((with_reducible refine gate_dst (N := 6) rfl ?_); refine box_event ?hg (N := 6) ?hd (cs := #[.int .i64 0, .int .i64 0, .int .u32 0]) (t := 231) ?hr ?_; (case hd => rfl); (case hg => rfl); (case hr => first | (go_simp; done) | (go_simp; rfl)); intro gb120 hg w16 hbox hb; have n0_ := aq (below_step (by repeat (first | (with_reducible first | exact HB.out | apply below_alloc | apply pw_below_drewN | apply below_drew1) | exact HB.out)) hb); have n1_ := aq (hbox); have n2_ := aq ((by rw [hg]; exact (below_size (by repeat (first | (with_reducible first | exact HB.out | apply below_alloc | apply pw_below_drewN | apply below_drew1) | exact HB.out))) : w.heap.size ≤ gb120)); have n3_ := aq ((by rw [hg]; exact (below_size (by repeat (first | (with_reducible first | exact HB.out | apply below_alloc | apply pw_below_drewN | apply below_drew1) | exact HB.out))) : w.heap.size ≤ gb120)); clear HB; have HB := n0_; have BK120 := n1_; have GW120 := n2_; have GE120 := n3_; clear n0_ n1_ n2_ n3_; clear hb hbox hg; obtain ⟨hcz17_0, hcz17_1, hcz17_2⟩ := cells3_ BK120.out; have hfz17_0 := fun j => blk_frozen BK120.out j) | (go_at_call 156; (with_reducible refine (bits_right.calls ((rd_T231 l0 x12_1).f0) ((rd_T231 l0 x12_1).f1) false _ A5.out).mono ?_); rintro e w' ⟨rfl, ⟨nd, rfl⟩⟩; (try first | exact ⟨rfl, _, World.drewN_drewN _ _ _⟩ | exact ⟨rfl, _, Eq.trans (World.drewN_drewN _ _ _) (congrArg (World.drewN _) (Nat.add_assoc _ _ _))⟩)))
       repeat (go_quiet (first | ((with_reducible refine gate_dst (N := 6) rfl ?_); refine box_event ?hg (N := 6) ?hd (cs := #[.int .i64 0, .int .i64 0, .int .u32 0]) (t := 231) ?hr ?_; (case hd => rfl); (case hg => rfl); (case hr => first | (go_simp; done) | (go_simp; rfl)); intro gb120 hg w16 hbox hb; have n0_ := aq (below_step (by repeat (first | (with_reducible first | exact HB.out | apply below_alloc | apply pw_below_drewN | apply below_drew1) | exact HB.out)) hb); have n1_ := aq (hbox); have n2_ := aq ((by rw [hg]; exact (below_size (by repeat (first | (with_reducible first | exact HB.out | apply below_alloc | apply pw_below_drewN | apply below_drew1) | exact HB.out))) : w.heap.size ≤ gb120)); have n3_ := aq ((by rw [hg]; exact (below_size (by repeat (first | (with_reducible first | exact HB.out | apply below_alloc | apply pw_below_drewN | apply below_drew1) | exact HB.out))) : w.heap.size ≤ gb120)); clear HB; have HB := n0_; have BK120 := n1_; have GW120 := n2_; have GE120 := n3_; clear n0_ n1_ n2_ n3_; clear hb hbox hg; obtain ⟨hcz17_0, hcz17_1, hcz17_2⟩ := cells3_ BK120.out; have hfz17_0 := fun j => blk_frozen BK120.out j) | (go_at_call 156; (with_reducible refine (bits_right.calls ((rd_T231 l0 x12_1).f0) ((rd_T231 l0 x12_1).f1) false _ A5.out).mono ?_); rintro e w' ⟨rfl, ⟨nd, rfl⟩⟩; (try first | exact ⟨rfl, _, World.drewN_drewN _ _ _⟩ | exact ⟨rfl, _, Eq.trans (World.drewN_drewN _ _ _) (congrArg (World.drewN _) (Nat.add_assoc _ _ _))⟩))); try go_wp2_with (first | ((with_reducible refine gate_dst (N := 6) rfl ?_); refine box_event ?hg (N := 6) ?hd (cs := #[.int .i64 0, .int .i64 0, .int .u32 0]) (t := 231) ?hr ?_; (case hd => rfl); (case hg => rfl); (case hr => first | (go_simp; done) | (go_simp; rfl)); intro gb120 hg w16 hbox hb; have n0_ := aq (below_step (by repeat (first | (with_reducible first | exact HB.out | apply below_alloc | apply pw_below_drewN | apply below_drew1) | exact HB.out)) hb); have n1_ := aq (hbox); have n2_ := aq ((by rw [hg]; exact (below_size (by repeat (first | (with_reducible first | exact HB.out | apply below_alloc | apply pw_below_drewN | apply below_drew1) | exact HB.out))) : w.heap.size ≤ gb120)); have n3_ := aq ((by rw [hg]; exact (below_size (by repeat (first | (with_reducible first | exact HB.out | apply below_alloc | apply pw_below_drewN | apply below_drew1) | exact HB.out))) : w.heap.size ≤ gb120)); clear HB; have HB := n0_; have BK120 := n1_; have GW120 := n2_; have GE120 := n3_; clear n0_ n1_ n2_ n3_; clear hb hbox hg; obtain ⟨hcz17_0, hcz17_1, hcz17_2⟩ := cells3_ BK120.out; have hfz17_0 := fun j => blk_frozen BK120.out j) | (go_at_call 156; (with_reducible refine (bits_right.calls ((rd_T231 l0 x12_1).f0) ((rd_T231 l0 x12_1).f1) false _ A5.out).mono ?_); rintro e w' ⟨rfl, ⟨nd, rfl⟩⟩; (try first | exact ⟨rfl, _, World.drewN_drewN _ _ _⟩ | exact ⟨rfl, _, Eq.trans (World.drewN_drewN _ _ _) (congrArg (World.drewN _) (Nat.add_assoc _ _ _))⟩))))
       go_ret2
       exact ⟨by first | rfl | (simp [errW_none, errW_some] <;> rfl) | (simp [*, errW_none, errW_some] <;> rfl), by repeat (first | (with_reducible first | exact HB.out | apply below_alloc | apply pw_below_drewN | apply below_drew1 | refine below_set ?_ GE120.out) | exact HB.out)⟩
     ·
      rw [if_neg c4] at H
      exact absurd H (by simp)
    ·
     rw [if_neg c3] at H
     exact absurd H (by simp)
   ·
    rw [if_neg c2] at H
    have c2b0 : decide (x12_1 < (l0.length : Int)) = false := decide_eq_false c2
    clear c2
    replace H := Option.bind_eq_some_iff.mp H
    obtain ⟨t123, A180, H⟩ := H
    replace H : (if t123 = true then (some (0, 4)) else (bits_Word.l1 k1 0 l0 (l0.length : Int) 0)) = some (r1, r2) := H
    have A18 := aq A180
    clear A180
    by_cases c19 : t123 = true
    ·
     subst c19
     have H1 : (some (0, 4)) = some (r1, r2) := by rw [if_pos rfl] at H; exact H
     clear H
     have H := H1
     clear H1
     simp only [Option.some.injEq, Prod.mk.injEq] at H
     obtain ⟨rfl, rfl⟩ := H
     go_wp2_with (first | (go_at_call 251; (with_reducible refine (api_Field_251.calls _ _ l0 true _ ?side1 ?side2 A18.out).mono ?_); (case side1 => repeat (first | exact (Kd.C_below HR0.out HB.out) | (with_reducible refine Kd.C_alloc ?_ _) | (with_reducible refine Kd.C_drewN ?_ _) | (with_reducible refine Kd.C_drew ?_))); (case side2 => exact HC0.out); rintro e w20 ⟨rfl, hb⟩; have n0_ := aq (below_step (by repeat (first | (with_reducible first | exact HB.out | apply below_alloc | apply pw_below_drewN | apply below_drew1) | exact HB.out)) hb); clear HB; have HB := n0_; clear n0_; (try clear hb); (try clear hb2); (try clear hk); (try clear hi)))
     repeat (go_quiet (first | (go_at_call 251; (with_reducible refine (api_Field_251.calls _ _ l0 true _ ?side1 ?side2 A18.out).mono ?_); (case side1 => repeat (first | exact (Kd.C_below HR0.out HB.out) | (with_reducible refine Kd.C_alloc ?_ _) | (with_reducible refine Kd.C_drewN ?_ _) | (with_reducible refine Kd.C_drew ?_))); (case side2 => exact HC0.out); rintro e w20 ⟨rfl, hb⟩; have n0_ := aq (below_step (by repeat (first | (with_reducible first | exact HB.out | apply below_alloc | apply pw_below_drewN | apply below_drew1) | exact HB.out)) hb); clear HB; have HB := n0_; clear n0_; (try clear hb); (try clear hb2); (try clear hk); (try clear hi))); try go_wp2_with (first | (go_at_call 251; (with_reducible refine (api_Field_251.calls _ _ l0 true _ ?side1 ?side2 A18.out).mono ?_); (case side1 => repeat (first | exact (Kd.C_below HR0.out HB.out) | (with_reducible refine Kd.C_alloc ?_ _) | (with_reducible refine Kd.C_drewN ?_ _) | (with_reducible refine Kd.C_drew ?_))); (case side2 => exact HC0.out); rintro e w20 ⟨rfl, hb⟩; have n0_ := aq (below_step (by repeat (first | (with_reducible first | exact HB.out | apply below_alloc | apply pw_below_drewN | apply below_drew1) | exact HB.out)) hb); clear HB; have HB := n0_; clear n0_; (try clear hb); (try clear hb2); (try clear hk); (try clear hi))))
     go_ret2
     exact ⟨by first | rfl | (simp [errW_none, errW_some] <;> rfl) | (simp [*, errW_none, errW_some] <;> rfl), by repeat (first | (with_reducible first | exact HB.out | apply below_alloc | apply pw_below_drewN | apply below_drew1) | exact HB.out)⟩
    ·
     replace c19 := Bool.eq_false_iff.mpr c19
     subst c19
     have H1 : (bits_Word.l1 k1 0 l0 (l0.length : Int) 0) = some (r1, r2) := by rw [if_neg (show ¬ (false = true) by decide)] at H; exact H
     clear H
     have H := H1
     clear H1
     have H' := aq H
     clear H
     go_wp2_with (first | (go_at_call 251; (with_reducible refine (api_Field_251.calls _ _ l0 false _ ?side1 ?side2 A18.out).mono ?_); (case side1 => repeat (first | exact (Kd.C_below HR0.out HB.out) | (with_reducible refine Kd.C_alloc ?_ _) | (with_reducible refine Kd.C_drewN ?_ _) | (with_reducible refine Kd.C_drew ?_))); (case side2 => exact HC0.out); rintro e w21 ⟨rfl, hb⟩; have n0_ := aq (below_step (by repeat (first | (with_reducible first | exact HB.out | apply below_alloc | apply pw_below_drewN | apply below_drew1) | exact HB.out)) hb); clear HB; have HB := n0_; clear n0_; (try clear hb); (try clear hb2); (try clear hk); (try clear hi)))
     repeat (go_quiet (first | (go_at_call 251; (with_reducible refine (api_Field_251.calls _ _ l0 false _ ?side1 ?side2 A18.out).mono ?_); (case side1 => repeat (first | exact (Kd.C_below HR0.out HB.out) | (with_reducible refine Kd.C_alloc ?_ _) | (with_reducible refine Kd.C_drewN ?_ _) | (with_reducible refine Kd.C_drew ?_))); (case side2 => exact HC0.out); rintro e w21 ⟨rfl, hb⟩; have n0_ := aq (below_step (by repeat (first | (with_reducible first | exact HB.out | apply below_alloc | apply pw_below_drewN | apply below_drew1) | exact HB.out)) hb); clear HB; have HB := n0_; clear n0_; (try clear hb); (try clear hb2); (try clear hk); (try clear hi))); try go_wp2_with (first | (go_at_call 251; (with_reducible refine (api_Field_251.calls _ _ l0 false _ ?side1 ?side2 A18.out).mono ?_); (case side1 => repeat (first | exact (Kd.C_below HR0.out HB.out) | (with_reducible refine Kd.C_alloc ?_ _) | (with_reducible refine Kd.C_drewN ?_ _) | (with_reducible refine Kd.C_drew ?_))); (case side2 => exact HC0.out); rintro e w21 ⟨rfl, hb⟩; have n0_ := aq (below_step (by repeat (first | (with_reducible first | exact HB.out | apply below_alloc | apply pw_below_drewN | apply below_drew1) | exact HB.out)) hb); clear HB; have HB := n0_; clear n0_; (try clear hb); (try clear hb2); (try clear hk); (try clear hi))))
     go_loopg [7, 46] k1 (fun kq v7 v46 w' => ∃ (x7_2 : Int) (x46_2 : Int), v7 = .int .u32 x7_2 ∧ v46 = .int .i64 x46_2 ∧ Aside0 (bits_Word.l1 kq x7_2 l0 (l0.length : Int) x46_2 = some (r1, r2)) ∧ Aside0 (kq ≤ k1) ∧ Aside0 (Below w.heap.size w w'))
     case atStart => exact ⟨(0), (0), (by first | rfl | (simp; done) | (simp [*]; done)), (by first | rfl | (simp; done) | (simp [*]; done)), H', ⟨Nat.le_refl _⟩, ⟨by repeat (first | (with_reducible first | exact HB.out | apply below_alloc | apply pw_below_drewN | apply below_drew1) | exact HB.out)⟩⟩
     case round =>
      clear H'
      try clear c1
      try clear p1
      try clear q1
      try clear hx1
      try clear c2
      try clear c2b0
      try clear p2
      try clear c3
      try clear c3b0
      try clear c4
      try clear c4b0
      try clear c6
      try clear p6
      try clear c8
      try clear c8b0
      try clear c8b1
      try clear c10
      try clear c10b0
      try clear c10b1
      try clear c11
      try clear c11b0
      try clear p11
      try clear q11
      try clear hx11
      try clear c19
      try clear hcz13_0 hcz13_1 hcz13_2
      try clear hcz15_0 hcz15_1 hcz15_2
      try clear hcz17_0 hcz17_1 hcz17_2
      try clear hfz13_0
      try clear hfz15_0
      try clear hfz17_0
      try clear hx119_0
      try clear hx119_1
      try clear hx119_2
      try clear p119
      try clear q119
      obtain ⟨x7_2, x46_2, rfl, rfl, HA, HK2, HB⟩ := hrel
      cases gk with
      | zero => exact absurd HA.out (by simp [bits_Word.l1])
      | succ k2 =>
       have H := HA.out
       clear HA
       simp only [bits_Word.l1] at H
       by_cases c22 : x46_2 < (l0.length : Int)
       ·
        rw [if_pos c22] at H
        have c22b0 : decide (x46_2 < (l0.length : Int)) = true := decide_eq_true c22
        clear c22
        by_cases c23 : 0 ≤ x46_2
        ·
         rw [if_pos c23] at H
         have c23b0 : decide (0 ≤ x46_2) = true := decide_eq_true c23
         clear c23
         by_cases c24 : x46_2 < (l0.length : Int)
         ·
          rw [if_pos c24] at H
          have c24b0 : decide (x46_2 < (l0.length : Int)) = true := decide_eq_true c24
          clear c24
          by_cases c25 : 0 ≤ ((rd_T231 l0 x46_2).f0)
          ·
           rw [if_pos c25] at H
           have c25b0 := eq_true c25
           have c25b1 : decide (0 ≤ ((rd_T231 l0 x46_2).f0)) = true := decide_eq_true c25
           clear c25
           obtain ⟨ji26, hji26⟩ : ∃ j_ : Int, (shl .u32 ((rd_T231 l0 x46_2).f2) ((rd_T231 l0 x46_2).f0)) = j_ := ⟨_, rfl⟩
           replace H : (bits_Word.l1 k2 (Go.bits .or .u32 x7_2 (ji26)) l0 (l0.length : Int) (wrap64 (x46_2 + 1))) = some (r1, r2) := by first | (rw [hji26] at H; exact H) | (simp only [hji26] at H ⊢; exact H)
           have hji26_ : (IntKind.u32.wrap (((rd_T231 l0 x46_2).f2) * 2 ^ min ((rd_T231 l0 x46_2).f0).toNat 32)) = ji26 := hji26
           have hji26z : ((rd_T231 l0 x46_2).f0) ≤ 32 → (IntKind.u32.wrap (((rd_T231 l0 x46_2).f2) * 2 ^ ((rd_T231 l0 x46_2).f0).toNat)) = ji26 := shl_small hji26
           have H' := aq H
           clear H
           have p124 : 0 ≤ (x46_2 : Int) := of_decide_eq_true (by first | (with_reducible assumption) | assumption)
           have q124 : x46_2 < (l0.length : Int) := of_decide_eq_true (by first | (with_reducible assumption) | assumption)
           obtain ⟨ad124, e124, hx124_0, hx124_1, hx124_2⟩ := at_T231 HR0.out x46_2 p124 q124
           cases e124
           replace hx124_0 := (HB.out.cell (World.block_lt_of_cell? w _ hx124_0)).trans hx124_0
           replace hx124_1 := (HB.out.cell (World.block_lt_of_cell? w _ hx124_1)).trans hx124_1
           replace hx124_2 := (HB.out.cell (World.block_lt_of_cell? w _ hx124_2)).trans hx124_2
           replace p124 := eq_true p124
           replace q124 := eq_true q124
           go_wp2_with (first | ((with_reducible refine gate_dst (N := 9) rfl ?_); refine box_event ?hg (N := 9) ?hd (cs := #[.int .i64 0, .int .i64 0, .int .u32 0]) (t := 231) ?hr ?_; (case hd => rfl); (case hg => rfl); (case hr => first | (go_simp; done) | (go_simp; rfl)); intro gb125 hg w27 hbox hb; have n0_ := aq (below_step (by repeat (first | (with_reducible first | exact HB.out | apply below_alloc | apply pw_below_drewN | apply below_drew1) | exact HB.out)) hb); have n1_ := aq (hbox); have n2_ := aq ((by rw [hg]; exact (below_size (by repeat (first | (with_reducible first | exact HB.out | apply below_alloc | apply pw_below_drewN | apply below_drew1) | exact HB.out))) : w.heap.size ≤ gb125)); have n3_ := aq ((by rw [hg]; exact (below_size (by repeat (first | (with_reducible first | exact HB.out | apply below_alloc | apply pw_below_drewN | apply below_drew1) | exact HB.out))) : w.heap.size ≤ gb125)); clear HB; have HB := n0_; have BK125 := n1_; have GW125 := n2_; have GE125 := n3_; clear n0_ n1_ n2_ n3_; clear hb hbox hg; obtain ⟨hcz28_0, hcz28_1, hcz28_2⟩ := cells3_ BK125.out; have hfz28_0 := fun j => blk_frozen BK125.out j))
           repeat (go_quiet (first | ((with_reducible refine gate_dst (N := 9) rfl ?_); refine box_event ?hg (N := 9) ?hd (cs := #[.int .i64 0, .int .i64 0, .int .u32 0]) (t := 231) ?hr ?_; (case hd => rfl); (case hg => rfl); (case hr => first | (go_simp; done) | (go_simp; rfl)); intro gb125 hg w27 hbox hb; have n0_ := aq (below_step (by repeat (first | (with_reducible first | exact HB.out | apply below_alloc | apply pw_below_drewN | apply below_drew1) | exact HB.out)) hb); have n1_ := aq (hbox); have n2_ := aq ((by rw [hg]; exact (below_size (by repeat (first | (with_reducible first | exact HB.out | apply below_alloc | apply pw_below_drewN | apply below_drew1) | exact HB.out))) : w.heap.size ≤ gb125)); have n3_ := aq ((by rw [hg]; exact (below_size (by repeat (first | (with_reducible first | exact HB.out | apply below_alloc | apply pw_below_drewN | apply below_drew1) | exact HB.out))) : w.heap.size ≤ gb125)); clear HB; have HB := n0_; have BK125 := n1_; have GW125 := n2_; have GE125 := n3_; clear n0_ n1_ n2_ n3_; clear hb hbox hg; obtain ⟨hcz28_0, hcz28_1, hcz28_2⟩ := cells3_ BK125.out; have hfz28_0 := fun j => blk_frozen BK125.out j)); try go_wp2_with (first | ((with_reducible refine gate_dst (N := 9) rfl ?_); refine box_event ?hg (N := 9) ?hd (cs := #[.int .i64 0, .int .i64 0, .int .u32 0]) (t := 231) ?hr ?_; (case hd => rfl); (case hg => rfl); (case hr => first | (go_simp; done) | (go_simp; rfl)); intro gb125 hg w27 hbox hb; have n0_ := aq (below_step (by repeat (first | (with_reducible first | exact HB.out | apply below_alloc | apply pw_below_drewN | apply below_drew1) | exact HB.out)) hb); have n1_ := aq (hbox); have n2_ := aq ((by rw [hg]; exact (below_size (by repeat (first | (with_reducible first | exact HB.out | apply below_alloc | apply pw_below_drewN | apply below_drew1) | exact HB.out))) : w.heap.size ≤ gb125)); have n3_ := aq ((by rw [hg]; exact (below_size (by repeat (first | (with_reducible first | exact HB.out | apply below_alloc | apply pw_below_drewN | apply below_drew1) | exact HB.out))) : w.heap.size ≤ gb125)); clear HB; have HB := n0_; have BK125 := n1_; have GW125 := n2_; have GE125 := n3_; clear n0_ n1_ n2_ n3_; clear hb hbox hg; obtain ⟨hcz28_0, hcz28_1, hcz28_2⟩ := cells3_ BK125.out; have hfz28_0 := fun j => blk_frozen BK125.out j)))
           go_roundg k2
           case measure => have := HK1.out; have := HK2.out; omega
           case rel => exact ⟨(Go.bits .or .u32 x7_2 (ji26)), (wrap64 (x46_2 + 1)), (by first | rfl | (simp; done) | (simp only [← hji26] <;> (first | rfl | simp)) | (simp [*]; done)), (by first | rfl | (simp; done) | (simp [*]; done)), H', ⟨by have := HK1.out; have := HK2.out; omega⟩, ⟨by repeat (first | (with_reducible first | exact HB.out | apply below_alloc | apply pw_below_drewN | apply below_drew1 | refine below_set ?_ GE125.out) | exact HB.out)⟩⟩
          ·
           rw [if_neg c25] at H
           exact absurd H (by simp)
         ·
          rw [if_neg c24] at H
          exact absurd H (by simp)
        ·
         rw [if_neg c23] at H
         exact absurd H (by simp)
       ·
        rw [if_neg c22] at H
        have c22b0 : decide (x46_2 < (l0.length : Int)) = false := decide_eq_false c22
        clear c22
        simp only [Option.some.injEq, Prod.mk.injEq] at H
        obtain ⟨rfl, rfl⟩ := H
        go_wp2
        repeat (go_quiet (fail); try go_wp2)
        go_ret2
        exact ⟨by first | rfl | (simp [errW_none, errW_some] <;> rfl) | (simp [*, errW_none, errW_some] <;> rfl), by repeat (first | (with_reducible first | exact HB.out | apply below_alloc | apply pw_below_drewN | apply below_drew1) | exact HB.out)⟩
def code_over.f (k : Nat) (base : Int) (l : List S231) : Option Int := (bits_Word.f k l).bind fun p => if p.2 = 0 then some (Go.bits .or .u32 base p.1) else none
theorem code_over.calls (k : Nat) (base : Int) (A : Option Addr) (c : Nat) (l : List S231) (r : Int) (w : World) (hr : Kd.C k231 w A l.length l) (hc : l.length ≤ c) (h : code_over.f k base l = some r) :
    Calls Tryz.prog 144 #[.int .u32 base, .slice A l.length c] w fun e w' => e = .returned (.int .u32 r) ∧ Below w.heap.size w w' := by
  unfold code_over.f at h
  obtain ⟨⟨p1, p2⟩, hp, h⟩ := Option.bind_eq_some_iff.mp h
  simp only at h
  split at h
  next h0 =>
    subst h0
    obtain rfl := Option.some.inj h
    have HP := aq hp
    have HR := aq hr
    clear h hp hr
    go_enter Tryz.func144, Tryz.ntmps144
    go_wp2_with (first | (go_at_call 192; refine (bits_Word.calls _ _ _ _ _ _ _ HR.out hc HP.out).mono ?_; rintro e w1 ⟨rfl, hb1⟩; have HB := aq hb1; clear hb1) | (go_at_call 102; refine (code_must.ok _).mono ?_; rintro e w3 ⟨rfl, rfl⟩))
    go_ret
    exact ⟨rfl, HB.out⟩
  next => cases h
def inst_nameL : List ByteArray := [⟨#[]⟩, ⟨#[109, 111, 118, 122]⟩, ⟨#[109, 111, 118, 110]⟩, ⟨#[109, 111, 118, 107]⟩, ⟨#[97, 100, 100]⟩, ⟨#[115, 117, 98]⟩, ⟨#[97, 100, 100, 115]⟩, ⟨#[115, 117, 98, 115]⟩, ⟨#[97, 110, 100]⟩, ⟨#[111, 114, 114]⟩, ⟨#[101, 111, 114]⟩, ⟨#[97, 110, 100, 115]⟩, ⟨#[97, 100, 100]⟩, ⟨#[115, 117, 98]⟩, ⟨#[97, 100, 100, 115]⟩, ⟨#[115, 117, 98, 115]⟩, ⟨#[97, 110, 100]⟩, ⟨#[111, 114, 114]⟩, ⟨#[101, 111, 114]⟩, ⟨#[97, 110, 100, 115]⟩, ⟨#[109, 97, 100, 100]⟩, ⟨#[109, 115, 117, 98]⟩, ⟨#[108, 100, 114]⟩, ⟨#[115, 116, 114]⟩, ⟨#[108, 100, 114, 98]⟩, ⟨#[115, 116, 114, 98]⟩, ⟨#[108, 100, 114]⟩, ⟨#[97, 100, 114]⟩, ⟨#[97, 100, 114, 112]⟩, ⟨#[98]⟩, ⟨#[98, 108]⟩, ⟨#[98]⟩, ⟨#[99, 98, 122]⟩, ⟨#[99, 98, 110, 122]⟩, ⟨#[98, 114]⟩, ⟨#[98, 108, 114]⟩, ⟨#[114, 101, 116]⟩, ⟨#[115, 118, 99]⟩, ⟨#[110, 111, 112]⟩, ⟨#[99, 115, 101, 108]⟩]
def inst_shapeL : List Int := [0, 1, 1, 1, 2, 2, 2, 2, 3, 3, 3, 3, 4, 4, 4, 4, 5, 5, 5, 5, 6, 6, 7, 7, 8, 8, 9, 10, 10, 11, 11, 12, 9, 9, 13, 13, 13, 14, 15, 16]
def inst_name (i : Nat) : ByteArray := inst_nameL.getD i ⟨#[]⟩
def inst_shape (i : Nat) : Int := inst_shapeL.getD i 0
def inst_op (i : Nat) : Value := .agg #[.string (inst_name i), .int .i64 (inst_shape i)]
def inst_cells : Array Value := #[.string ⟨#[]⟩, .int .i64 0, .string ⟨#[109, 111, 118, 122]⟩, .int .i64 1, .string ⟨#[109, 111, 118, 110]⟩, .int .i64 1, .string ⟨#[109, 111, 118, 107]⟩, .int .i64 1, .string ⟨#[97, 100, 100]⟩, .int .i64 2, .string ⟨#[115, 117, 98]⟩, .int .i64 2, .string ⟨#[97, 100, 100, 115]⟩, .int .i64 2, .string ⟨#[115, 117, 98, 115]⟩, .int .i64 2, .string ⟨#[97, 110, 100]⟩, .int .i64 3, .string ⟨#[111, 114, 114]⟩, .int .i64 3, .string ⟨#[101, 111, 114]⟩, .int .i64 3, .string ⟨#[97, 110, 100, 115]⟩, .int .i64 3, .string ⟨#[97, 100, 100]⟩, .int .i64 4, .string ⟨#[115, 117, 98]⟩, .int .i64 4, .string ⟨#[97, 100, 100, 115]⟩, .int .i64 4, .string ⟨#[115, 117, 98, 115]⟩, .int .i64 4, .string ⟨#[97, 110, 100]⟩, .int .i64 5, .string ⟨#[111, 114, 114]⟩, .int .i64 5, .string ⟨#[101, 111, 114]⟩, .int .i64 5, .string ⟨#[97, 110, 100, 115]⟩, .int .i64 5, .string ⟨#[109, 97, 100, 100]⟩, .int .i64 6, .string ⟨#[109, 115, 117, 98]⟩, .int .i64 6, .string ⟨#[108, 100, 114]⟩, .int .i64 7, .string ⟨#[115, 116, 114]⟩, .int .i64 7, .string ⟨#[108, 100, 114, 98]⟩, .int .i64 8, .string ⟨#[115, 116, 114, 98]⟩, .int .i64 8, .string ⟨#[108, 100, 114]⟩, .int .i64 9, .string ⟨#[97, 100, 114]⟩, .int .i64 10, .string ⟨#[97, 100, 114, 112]⟩, .int .i64 10, .string ⟨#[98]⟩, .int .i64 11, .string ⟨#[98, 108]⟩, .int .i64 11, .string ⟨#[98]⟩, .int .i64 12, .string ⟨#[99, 98, 122]⟩, .int .i64 9, .string ⟨#[99, 98, 110, 122]⟩, .int .i64 9, .string ⟨#[98, 114]⟩, .int .i64 13, .string ⟨#[98, 108, 114]⟩, .int .i64 13, .string ⟨#[114, 101, 116]⟩, .int .i64 13, .string ⟨#[115, 118, 99]⟩, .int .i64 14, .string ⟨#[110, 111, 112]⟩, .int .i64 15, .string ⟨#[99, 115, 101, 108]⟩, .int .i64 16]
def inst_zeros : Array Value := #[.string ⟨#[]⟩, .int .i64 0, .string ⟨#[]⟩, .int .i64 0, .string ⟨#[]⟩, .int .i64 0, .string ⟨#[]⟩, .int .i64 0, .string ⟨#[]⟩, .int .i64 0, .string ⟨#[]⟩, .int .i64 0, .string ⟨#[]⟩, .int .i64 0, .string ⟨#[]⟩, .int .i64 0, .string ⟨#[]⟩, .int .i64 0, .string ⟨#[]⟩, .int .i64 0, .string ⟨#[]⟩, .int .i64 0, .string ⟨#[]⟩, .int .i64 0, .string ⟨#[]⟩, .int .i64 0, .string ⟨#[]⟩, .int .i64 0, .string ⟨#[]⟩, .int .i64 0, .string ⟨#[]⟩, .int .i64 0, .string ⟨#[]⟩, .int .i64 0, .string ⟨#[]⟩, .int .i64 0, .string ⟨#[]⟩, .int .i64 0, .string ⟨#[]⟩, .int .i64 0, .string ⟨#[]⟩, .int .i64 0, .string ⟨#[]⟩, .int .i64 0, .string ⟨#[]⟩, .int .i64 0, .string ⟨#[]⟩, .int .i64 0, .string ⟨#[]⟩, .int .i64 0, .string ⟨#[]⟩, .int .i64 0, .string ⟨#[]⟩, .int .i64 0, .string ⟨#[]⟩, .int .i64 0, .string ⟨#[]⟩, .int .i64 0, .string ⟨#[]⟩, .int .i64 0, .string ⟨#[]⟩, .int .i64 0, .string ⟨#[]⟩, .int .i64 0, .string ⟨#[]⟩, .int .i64 0, .string ⟨#[]⟩, .int .i64 0, .string ⟨#[]⟩, .int .i64 0, .string ⟨#[]⟩, .int .i64 0, .string ⟨#[]⟩, .int .i64 0, .string ⟨#[]⟩, .int .i64 0, .string ⟨#[]⟩, .int .i64 0, .string ⟨#[]⟩, .int .i64 0]
theorem inst_zero : (Tryz.prog.info? 240).map (fun i => (i.zero, i.size)) = some (some (.agg inst_zeros), 80) := by kernel_rfl
theorem inst_cells_one : inst_cells.all (·.oneCell') = true := by decide +kernel
theorem inst_build0 (W : World) : (Instr.build 239 #[]).run Tryz.prog W = .ok (inst_op 0) W := run_build W _ _ _ (by kernel_rfl)
theorem inst_build1 (W : World) : (Instr.build 239 #[(0, .string ⟨#[109, 111, 118, 122]⟩), (1, .int .i64 1)]).run Tryz.prog W = .ok (inst_op 1) W := run_build W _ _ _ (by kernel_rfl)
theorem inst_build2 (W : World) : (Instr.build 239 #[(0, .string ⟨#[109, 111, 118, 110]⟩), (1, .int .i64 1)]).run Tryz.prog W = .ok (inst_op 2) W := run_build W _ _ _ (by kernel_rfl)
theorem inst_build3 (W : World) : (Instr.build 239 #[(0, .string ⟨#[109, 111, 118, 107]⟩), (1, .int .i64 1)]).run Tryz.prog W = .ok (inst_op 3) W := run_build W _ _ _ (by kernel_rfl)
theorem inst_build4 (W : World) : (Instr.build 239 #[(0, .string ⟨#[97, 100, 100]⟩), (1, .int .i64 2)]).run Tryz.prog W = .ok (inst_op 4) W := run_build W _ _ _ (by kernel_rfl)
theorem inst_build5 (W : World) : (Instr.build 239 #[(0, .string ⟨#[115, 117, 98]⟩), (1, .int .i64 2)]).run Tryz.prog W = .ok (inst_op 5) W := run_build W _ _ _ (by kernel_rfl)
theorem inst_build6 (W : World) : (Instr.build 239 #[(0, .string ⟨#[97, 100, 100, 115]⟩), (1, .int .i64 2)]).run Tryz.prog W = .ok (inst_op 6) W := run_build W _ _ _ (by kernel_rfl)
theorem inst_build7 (W : World) : (Instr.build 239 #[(0, .string ⟨#[115, 117, 98, 115]⟩), (1, .int .i64 2)]).run Tryz.prog W = .ok (inst_op 7) W := run_build W _ _ _ (by kernel_rfl)
theorem inst_build8 (W : World) : (Instr.build 239 #[(0, .string ⟨#[97, 110, 100]⟩), (1, .int .i64 3)]).run Tryz.prog W = .ok (inst_op 8) W := run_build W _ _ _ (by kernel_rfl)
theorem inst_build9 (W : World) : (Instr.build 239 #[(0, .string ⟨#[111, 114, 114]⟩), (1, .int .i64 3)]).run Tryz.prog W = .ok (inst_op 9) W := run_build W _ _ _ (by kernel_rfl)
theorem inst_build10 (W : World) : (Instr.build 239 #[(0, .string ⟨#[101, 111, 114]⟩), (1, .int .i64 3)]).run Tryz.prog W = .ok (inst_op 10) W := run_build W _ _ _ (by kernel_rfl)
theorem inst_build11 (W : World) : (Instr.build 239 #[(0, .string ⟨#[97, 110, 100, 115]⟩), (1, .int .i64 3)]).run Tryz.prog W = .ok (inst_op 11) W := run_build W _ _ _ (by kernel_rfl)
theorem inst_build12 (W : World) : (Instr.build 239 #[(0, .string ⟨#[97, 100, 100]⟩), (1, .int .i64 4)]).run Tryz.prog W = .ok (inst_op 12) W := run_build W _ _ _ (by kernel_rfl)
theorem inst_build13 (W : World) : (Instr.build 239 #[(0, .string ⟨#[115, 117, 98]⟩), (1, .int .i64 4)]).run Tryz.prog W = .ok (inst_op 13) W := run_build W _ _ _ (by kernel_rfl)
theorem inst_build14 (W : World) : (Instr.build 239 #[(0, .string ⟨#[97, 100, 100, 115]⟩), (1, .int .i64 4)]).run Tryz.prog W = .ok (inst_op 14) W := run_build W _ _ _ (by kernel_rfl)
theorem inst_build15 (W : World) : (Instr.build 239 #[(0, .string ⟨#[115, 117, 98, 115]⟩), (1, .int .i64 4)]).run Tryz.prog W = .ok (inst_op 15) W := run_build W _ _ _ (by kernel_rfl)
theorem inst_build16 (W : World) : (Instr.build 239 #[(0, .string ⟨#[97, 110, 100]⟩), (1, .int .i64 5)]).run Tryz.prog W = .ok (inst_op 16) W := run_build W _ _ _ (by kernel_rfl)
theorem inst_build17 (W : World) : (Instr.build 239 #[(0, .string ⟨#[111, 114, 114]⟩), (1, .int .i64 5)]).run Tryz.prog W = .ok (inst_op 17) W := run_build W _ _ _ (by kernel_rfl)
theorem inst_build18 (W : World) : (Instr.build 239 #[(0, .string ⟨#[101, 111, 114]⟩), (1, .int .i64 5)]).run Tryz.prog W = .ok (inst_op 18) W := run_build W _ _ _ (by kernel_rfl)
theorem inst_build19 (W : World) : (Instr.build 239 #[(0, .string ⟨#[97, 110, 100, 115]⟩), (1, .int .i64 5)]).run Tryz.prog W = .ok (inst_op 19) W := run_build W _ _ _ (by kernel_rfl)
theorem inst_build20 (W : World) : (Instr.build 239 #[(0, .string ⟨#[109, 97, 100, 100]⟩), (1, .int .i64 6)]).run Tryz.prog W = .ok (inst_op 20) W := run_build W _ _ _ (by kernel_rfl)
theorem inst_build21 (W : World) : (Instr.build 239 #[(0, .string ⟨#[109, 115, 117, 98]⟩), (1, .int .i64 6)]).run Tryz.prog W = .ok (inst_op 21) W := run_build W _ _ _ (by kernel_rfl)
theorem inst_build22 (W : World) : (Instr.build 239 #[(0, .string ⟨#[108, 100, 114]⟩), (1, .int .i64 7)]).run Tryz.prog W = .ok (inst_op 22) W := run_build W _ _ _ (by kernel_rfl)
theorem inst_build23 (W : World) : (Instr.build 239 #[(0, .string ⟨#[115, 116, 114]⟩), (1, .int .i64 7)]).run Tryz.prog W = .ok (inst_op 23) W := run_build W _ _ _ (by kernel_rfl)
theorem inst_build24 (W : World) : (Instr.build 239 #[(0, .string ⟨#[108, 100, 114, 98]⟩), (1, .int .i64 8)]).run Tryz.prog W = .ok (inst_op 24) W := run_build W _ _ _ (by kernel_rfl)
theorem inst_build25 (W : World) : (Instr.build 239 #[(0, .string ⟨#[115, 116, 114, 98]⟩), (1, .int .i64 8)]).run Tryz.prog W = .ok (inst_op 25) W := run_build W _ _ _ (by kernel_rfl)
theorem inst_build26 (W : World) : (Instr.build 239 #[(0, .string ⟨#[108, 100, 114]⟩), (1, .int .i64 9)]).run Tryz.prog W = .ok (inst_op 26) W := run_build W _ _ _ (by kernel_rfl)
theorem inst_build27 (W : World) : (Instr.build 239 #[(0, .string ⟨#[97, 100, 114]⟩), (1, .int .i64 10)]).run Tryz.prog W = .ok (inst_op 27) W := run_build W _ _ _ (by kernel_rfl)
theorem inst_build28 (W : World) : (Instr.build 239 #[(0, .string ⟨#[97, 100, 114, 112]⟩), (1, .int .i64 10)]).run Tryz.prog W = .ok (inst_op 28) W := run_build W _ _ _ (by kernel_rfl)
theorem inst_build29 (W : World) : (Instr.build 239 #[(0, .string ⟨#[98]⟩), (1, .int .i64 11)]).run Tryz.prog W = .ok (inst_op 29) W := run_build W _ _ _ (by kernel_rfl)
theorem inst_build30 (W : World) : (Instr.build 239 #[(0, .string ⟨#[98, 108]⟩), (1, .int .i64 11)]).run Tryz.prog W = .ok (inst_op 30) W := run_build W _ _ _ (by kernel_rfl)
theorem inst_build31 (W : World) : (Instr.build 239 #[(0, .string ⟨#[98]⟩), (1, .int .i64 12)]).run Tryz.prog W = .ok (inst_op 31) W := run_build W _ _ _ (by kernel_rfl)
theorem inst_build32 (W : World) : (Instr.build 239 #[(0, .string ⟨#[99, 98, 122]⟩), (1, .int .i64 9)]).run Tryz.prog W = .ok (inst_op 32) W := run_build W _ _ _ (by kernel_rfl)
theorem inst_build33 (W : World) : (Instr.build 239 #[(0, .string ⟨#[99, 98, 110, 122]⟩), (1, .int .i64 9)]).run Tryz.prog W = .ok (inst_op 33) W := run_build W _ _ _ (by kernel_rfl)
theorem inst_build34 (W : World) : (Instr.build 239 #[(0, .string ⟨#[98, 114]⟩), (1, .int .i64 13)]).run Tryz.prog W = .ok (inst_op 34) W := run_build W _ _ _ (by kernel_rfl)
theorem inst_build35 (W : World) : (Instr.build 239 #[(0, .string ⟨#[98, 108, 114]⟩), (1, .int .i64 13)]).run Tryz.prog W = .ok (inst_op 35) W := run_build W _ _ _ (by kernel_rfl)
theorem inst_build36 (W : World) : (Instr.build 239 #[(0, .string ⟨#[114, 101, 116]⟩), (1, .int .i64 13)]).run Tryz.prog W = .ok (inst_op 36) W := run_build W _ _ _ (by kernel_rfl)
theorem inst_build37 (W : World) : (Instr.build 239 #[(0, .string ⟨#[115, 118, 99]⟩), (1, .int .i64 14)]).run Tryz.prog W = .ok (inst_op 37) W := run_build W _ _ _ (by kernel_rfl)
theorem inst_build38 (W : World) : (Instr.build 239 #[(0, .string ⟨#[110, 111, 112]⟩), (1, .int .i64 15)]).run Tryz.prog W = .ok (inst_op 38) W := run_build W _ _ _ (by kernel_rfl)
theorem inst_build39 (W : World) : (Instr.build 239 #[(0, .string ⟨#[99, 115, 101, 108]⟩), (1, .int .i64 16)]).run Tryz.prog W = .ok (inst_op 39) W := run_build W _ _ _ (by kernel_rfl)
theorem inst_buildAll (W : World) : (Instr.build 240 #[(0, inst_op 0), (1, inst_op 1), (2, inst_op 2), (3, inst_op 3), (4, inst_op 4), (5, inst_op 5), (6, inst_op 6), (7, inst_op 7), (8, inst_op 8), (9, inst_op 9), (10, inst_op 10), (11, inst_op 11), (12, inst_op 12), (13, inst_op 13), (14, inst_op 14), (15, inst_op 15), (16, inst_op 16), (17, inst_op 17), (18, inst_op 18), (19, inst_op 19), (20, inst_op 20), (21, inst_op 21), (22, inst_op 22), (23, inst_op 23), (24, inst_op 24), (25, inst_op 25), (26, inst_op 26), (27, inst_op 27), (28, inst_op 28), (29, inst_op 29), (30, inst_op 30), (31, inst_op 31), (32, inst_op 32), (33, inst_op 33), (34, inst_op 34), (35, inst_op 35), (36, inst_op 36), (37, inst_op 37), (38, inst_op 38), (39, inst_op 39)]).run Tryz.prog W = .ok (.agg inst_cells) W := run_build W _ _ _ (by kernel_rfl)
theorem inst_cells_size : inst_cells.size = 80 := rfl
theorem results_cell_ {P : Program} {fn : Func} {p : Tmp} {ty : TypeId} {b : Nat} {c : Array Value} {d : TypeDesc} (h : fn.results = #[.cell p ty]) (tmps : Array Value) (w : World) (ha : tmps.getD p undef = .pointer (some ⟨b, 0, none⟩))
    (hb : w.heap[b]? = some (.cells c ty (0, 0))) (hu : P.underlying ty = some d) (hd : (match d with | .array _ _ => true | .struct _ => true | _ => false) = true) (hi : (P.info? ty).map (·.size) = some c.size) : (results fn tmps).run P w = .ok (.agg c) w := by
  have hl := run_loadVar_row w b ty ty c (0, 0) d hb hu (by cases d <;> simp_all) hi
  have ha' : tmps[p]?.getD undef = .pointer (some ⟨b, 0, none⟩) := by simpa using ha
  simp [results, h, ha', asAddr, hl]
theorem heap_last_ (w : World) (o : Obj) : (w.alloc o).heap[w.heap.size]? = some o := by
  show (w.heap.push o)[w.heap.size]? = some o
  simp
attribute [-go_sem] Instr.build Instr.fill in
set_option maxHeartbeats 12800000 in
set_option maxRecDepth 100000 in
theorem inst_ops.calls (w : World) : Calls Tryz.prog 155 #[] w fun e w' => e = .returned (.agg inst_cells) ∧ Below w.heap.size w w' := by
  obtain ⟨hz, hs⟩ := zero_of_info inst_zero
  have hst := run_storeCells_new (P := Tryz.prog) w 240 inst_zeros inst_cells hs rfl inst_cells_one
  have hld := run_loadCellsFrom_new (P := Tryz.prog) w 240 inst_cells 80 rfl
  have hsz := inst_cells_size
  have hb0 := inst_build0
  have hb1 := inst_build1
  have hb2 := inst_build2
  have hb3 := inst_build3
  have hb4 := inst_build4
  have hb5 := inst_build5
  have hb6 := inst_build6
  have hb7 := inst_build7
  have hb8 := inst_build8
  have hb9 := inst_build9
  have hb10 := inst_build10
  have hb11 := inst_build11
  have hb12 := inst_build12
  have hb13 := inst_build13
  have hb14 := inst_build14
  have hb15 := inst_build15
  have hb16 := inst_build16
  have hb17 := inst_build17
  have hb18 := inst_build18
  have hb19 := inst_build19
  have hb20 := inst_build20
  have hb21 := inst_build21
  have hb22 := inst_build22
  have hb23 := inst_build23
  have hb24 := inst_build24
  have hb25 := inst_build25
  have hb26 := inst_build26
  have hb27 := inst_build27
  have hb28 := inst_build28
  have hb29 := inst_build29
  have hb30 := inst_build30
  have hb31 := inst_build31
  have hb32 := inst_build32
  have hb33 := inst_build33
  have hb34 := inst_build34
  have hb35 := inst_build35
  have hb36 := inst_build36
  have hb37 := inst_build37
  have hb38 := inst_build38
  have hb39 := inst_build39
  have hba := inst_buildAll
  go_enter Tryz.func155, Tryz.ntmps155
  go_wp2
  clear hba hb0 hb1 hb2 hb3 hb4 hb5 hb6 hb7 hb8 hb9 hb10 hb11 hb12 hb13 hb14 hb15 hb16 hb17 hb18 hb19 hb20 hb21 hb22 hb23 hb24 hb25 hb26 hb27 hb28 hb29 hb30 hb31 hb32 hb33 hb34 hb35 hb36 hb37 hb38 hb39
  refine bodyPost_ret (v := .agg inst_cells) (results_cell_ rfl _ _ rfl (heap_last_ w _) Tryz.underlying240 rfl hs) rfl ⟨rfl, (Below.refl _ _).alloc (Nat.le_refl _) _⟩
theorem inst_field1 (i : Nat) (W : World) : (Instr.field 239 (inst_op i) 1).run Tryz.prog W = .ok (.int .i64 (inst_shape i)) W := by kernel_rfl
theorem inst_index : ∀ (i : Nat) (_ : i < 40) (W : World), (Instr.index 240 (.agg inst_cells) (.int .i64 (i : Int))).run Tryz.prog W = .ok (inst_op i) W
  | 0, _, _ => by kernel_rfl
  | 1, _, _ => by kernel_rfl
  | 2, _, _ => by kernel_rfl
  | 3, _, _ => by kernel_rfl
  | 4, _, _ => by kernel_rfl
  | 5, _, _ => by kernel_rfl
  | 6, _, _ => by kernel_rfl
  | 7, _, _ => by kernel_rfl
  | 8, _, _ => by kernel_rfl
  | 9, _, _ => by kernel_rfl
  | 10, _, _ => by kernel_rfl
  | 11, _, _ => by kernel_rfl
  | 12, _, _ => by kernel_rfl
  | 13, _, _ => by kernel_rfl
  | 14, _, _ => by kernel_rfl
  | 15, _, _ => by kernel_rfl
  | 16, _, _ => by kernel_rfl
  | 17, _, _ => by kernel_rfl
  | 18, _, _ => by kernel_rfl
  | 19, _, _ => by kernel_rfl
  | 20, _, _ => by kernel_rfl
  | 21, _, _ => by kernel_rfl
  | 22, _, _ => by kernel_rfl
  | 23, _, _ => by kernel_rfl
  | 24, _, _ => by kernel_rfl
  | 25, _, _ => by kernel_rfl
  | 26, _, _ => by kernel_rfl
  | 27, _, _ => by kernel_rfl
  | 28, _, _ => by kernel_rfl
  | 29, _, _ => by kernel_rfl
  | 30, _, _ => by kernel_rfl
  | 31, _, _ => by kernel_rfl
  | 32, _, _ => by kernel_rfl
  | 33, _, _ => by kernel_rfl
  | 34, _, _ => by kernel_rfl
  | 35, _, _ => by kernel_rfl
  | 36, _, _ => by kernel_rfl
  | 37, _, _ => by kernel_rfl
  | 38, _, _ => by kernel_rfl
  | 39, _, _ => by kernel_rfl
  | i + 40, h, _ => absurd h (by omega)
theorem inst_index_int (a : Int) (h0 : 0 ≤ a) (h1 : a < 40) (W : World) : (Instr.index 240 (.agg inst_cells) (.int .i64 a)).run Tryz.prog W = .ok (inst_op a.toNat) W := by
  obtain ⟨i, rfl⟩ := Int.eq_ofNat_of_zero_le h0
  exact inst_index i (by omega) W
def inst_Shape.f (a0 : Int) : Option Int := some (if a0 < 1 then 0 else if a0 > 39 then 0 else inst_shape a0.toNat)
theorem inst_Shape.calls (a0 : Int) (r : Int) (w : World) (h : inst_Shape.f a0 = some r) :
    Calls Tryz.prog 100 #[.int .i64 a0] w fun e w' => e = .returned (.int .i64 r) ∧ Below w.heap.size w w' := by
  unfold inst_Shape.f at h
  obtain rfl := Option.some.inj h
  clear h
  by_cases h1 : a0 < 1
  · rw [if_pos h1]
    go_enter Tryz.func100, Tryz.ntmps100
    go_wp2
    go_ret
    exact ⟨rfl, Below.refl _ _⟩
  · by_cases h2 : a0 > 39
    · rw [if_neg h1, if_pos h2]
      go_enter Tryz.func100, Tryz.ntmps100
      go_wp2
      go_ret
      exact ⟨rfl, Below.refl _ _⟩
    · rw [if_neg h1, if_neg h2]
      have hi := inst_index_int a0 (by omega) (by omega)
      have hf := inst_field1
      go_enter Tryz.func100, Tryz.ntmps100
      go_wp2_with (first | (go_at_call 155; refine (inst_ops.calls _).mono ?_; rintro e w1 ⟨rfl, hb1⟩; have HB1 := aq hb1; clear hb1))
      go_ret
      exact ⟨rfl, HB1.out⟩
mutual
def cleatref27_Big.l0 : Nat → Int → Int → Int → List (S57) → Option (Bool)
 | 0, _, _, _, _ => none
 | k + 1, x3, x105000, x105001, x105002 => if x3 < (x105002.length : Int) then (cleatref27_Big.j1 k x3 (decide ((x105002.length : Int) ≤ 30)) x105000 x105001 x105002) else (cleatref27_Big.j1 k x3 false x105000 x105001 x105002)
def cleatref27_Big.j1 : Nat → Int → Bool → Int → Int → List (S57) → Option (Bool)
 | 0, _, _, _, _, _ => none
 | k + 1, x3, x14, x105000, x105001, x105002 => if x14 = true then (if 0 ≤ x3 then (if x3 < (x105002.length : Int) then (if (((rd_T57 x105002 x3).f2).size : Int) > 10000 then (if (((rd_T57 x105002 x3).f2).size : Int) ≤ 65536 then (some true) else (if (((rd_T57 x105002 x3).f2).size : Int) > 70000 then (some true) else (cleatref27_Big.l0 k (wrap64 (x3 + 1)) x105000 x105001 x105002))) else (if (((rd_T57 x105002 x3).f2).size : Int) > 70000 then (some true) else (cleatref27_Big.l0 k (wrap64 (x3 + 1)) x105000 x105001 x105002))) else (none)) else (none)) else (if (x105002.length : Int) > 30 then (if (x105002.length : Int) ≤ 256 then (some true) else (some (decide ((x105002.length : Int) > 300)))) else (some (decide ((x105002.length : Int) > 300))))
end
def cleatref27_Big.f (k : Nat) (a0_0 : Int) (a0_1 : Int) (l0_2 : List (S57)) : Option (Bool) := cleatref27_Big.l0 k 0 a0_0 a0_1 l0_2
set_option maxHeartbeats 8000000 in
set_option maxRecDepth 100000 in
theorem cleatref27_Big.calls (k : Nat) (a0_0 : Int) (a0_1 : Int) (A0_2 : Option Addr) (c0_2 : Nat) (l0_2 : List (S57)) (r : Bool) (w : World) (hr0_2 : Kd.C k57 w A0_2 l0_2.length l0_2) (hc0_2 : l0_2.length ≤ c0_2) (h : cleatref27_Big.f k a0_0 a0_1 l0_2 = some r) :
    Calls Tryz.prog 9 #[.agg #[.int .u64 a0_0, .int .u64 a0_1, .slice A0_2 l0_2.length c0_2]] w fun e w' => e = .returned (.bool r) ∧ Below w.heap.size w w' := by
 have hu25 := Tryz.underlying25
 have HR0_2 := aq hr0_2
 have HC0_2 := aq hc0_2
 clear hr0_2 hc0_2
 have HB := aq (Below.refl w.heap.size w)
 have H : (cleatref27_Big.l0 k 0 a0_0 a0_1 l0_2) = some r := h
 clear h
 have H' := aq H
 clear H
 go_enter Tryz.func9, Tryz.ntmps9
 go_wp2_with (first | ((with_reducible refine gate_dst (N := 1) rfl ?_); (try (refine gate_guard (by rfl) ?_; dsimp only)); refine box_event ?hg (N := 1) ?hd (cs := #[.int .u64 a0_0, .int .u64 a0_1, .slice A0_2 l0_2.length c0_2]) (t := 25) ?hr ?_; (case hd => rfl); (case hg => rfl); (case hr => first | (go_simp; done) | (go_simp; rfl)); intro gb104 hg w2 hbox hb; have n0_ := aq (below_step (by repeat (first | (with_reducible first | exact HB.out | apply below_alloc | apply pw_below_drewN | apply below_drew1) | exact HB.out)) hb); have n1_ := aq (hbox); have n2_ := aq ((by rw [hg]; exact (below_size (by repeat (first | (with_reducible first | exact HB.out | apply below_alloc | apply pw_below_drewN | apply below_drew1) | exact HB.out))) : w.heap.size ≤ gb104)); have n3_ := aq ((by rw [hg]; exact (below_size (by repeat (first | (with_reducible first | exact HB.out | apply below_alloc | apply pw_below_drewN | apply below_drew1) | exact HB.out))) : w.heap.size ≤ gb104)); clear HB; have HB := n0_; have BK104 := n1_; have GW104 := n2_; have GE104 := n3_; clear n0_ n1_ n2_ n3_; clear hb hbox hg))
 go_loopg [3] k (fun kq v3 w' => ∃ (x3_1 : Int), v3 = .int .i64 x3_1 ∧ Aside0 (cleatref27_Big.l0 kq x3_1 a0_0 a0_1 l0_2 = some r) ∧ Aside0 (kq ≤ k) ∧ Aside0 (w'.heap[gb104]? = some (.cells #[.int .u64 a0_0, .int .u64 a0_1, (.slice A0_2 l0_2.length c0_2)] 25 (0, 0))) ∧ Aside0 (Below w.heap.size w w'))
 case atStart => exact ⟨(0), (by first | rfl | (simp; done) | (simp [*]; done)), H', ⟨Nat.le_refl _⟩, ⟨by (with_reducible repeat (first | refine blk_drewN ?_ _ | refine blk_drew ?_ | refine blk_alloc ?_ _)); exact BK104.out⟩, ⟨by repeat (first | (with_reducible first | exact HB.out | apply below_alloc | apply pw_below_drewN | apply below_drew1 | refine below_set ?_ GE104.out) | exact HB.out)⟩⟩
 case round =>
  clear H'
  try clear p2
  obtain ⟨x3_1, rfl, HA, HK1, BK104, HB⟩ := hrel
  cases gk with
  | zero => exact absurd HA.out (by simp [cleatref27_Big.l0])
  | succ k1 =>
   have H := HA.out
   clear HA
   simp only [cleatref27_Big.l0] at H
   have HC3 := aq H
   clear H
   go_upto_region 2 with (fail)
   go_cut [14] (fun v14 wc => ∃ (kq : Nat) (x14_2 : Bool), v14 = .bool x14_2 ∧ Aside0 (cleatref27_Big.j1 kq x3_1 x14_2 a0_0 a0_1 l0_2 = some r) ∧ Aside0 (kq ≤ k1) ∧ Aside0 (wc.heap[gb104]? = some (.cells #[.int .u64 a0_0, .int .u64 a0_1, (.slice A0_2 l0_2.length c0_2)] 25 (0, 0))) ∧ Aside0 (Below w.heap.size w wc))
   case first =>
    have H := HC3.out
    clear HC3
    by_cases c4 : x3_1 < (l0_2.length : Int)
    ·
     rw [if_pos c4] at H
     have c4b0 : decide (x3_1 < (l0_2.length : Int)) = true := decide_eq_true c4
     clear c4
     (first | rw [c4b0] | (simp only [i64_w, i32_w]; rw [c4b0]) | skip)
     have H' := aq H
     clear H
     have hcz5_0 : wr.cell? ⟨gb104, 0, none⟩ = some (.int .u64 a0_0) := (blk_cell BK104.out 0).trans rfl
     have hcz5_1 : wr.cell? ⟨gb104, 1, none⟩ = some (.int .u64 a0_1) := (blk_cell BK104.out 1).trans rfl
     have hcz5_2 : wr.cell? ⟨gb104, 2, none⟩ = some (.slice A0_2 l0_2.length c0_2) := (blk_cell BK104.out 2).trans rfl
     have hfz5_0 := blk_frozen BK104.out 0
     have hfz5_1 := blk_frozen BK104.out 1
     have hfz5_2 := blk_frozen BK104.out 2
     go_wp2
     go_meet
     case rel => exact ⟨_, (decide ((l0_2.length : Int) ≤ 30)), (by first | rfl | (simp; done) | (simp [*]; done)), H', ⟨by have := HK1.out; first | omega | exact Nat.le_refl _⟩, ⟨by (with_reducible repeat (first | refine blk_drewN ?_ _ | refine blk_drew ?_ | refine blk_alloc ?_ _)); exact BK104.out⟩, ⟨by repeat (first | (with_reducible first | exact HB.out | apply below_alloc | apply pw_below_drewN | apply below_drew1 | refine below_set ?_ GE104.out) | exact HB.out)⟩⟩
    ·
     rw [if_neg c4] at H
     have c4b0 : decide (x3_1 < (l0_2.length : Int)) = false := decide_eq_false c4
     clear c4
     (first | rw [c4b0] | (simp only [i64_w, i32_w]; rw [c4b0]) | skip)
     have H' := aq H
     clear H
     have hcz6_0 : wr.cell? ⟨gb104, 0, none⟩ = some (.int .u64 a0_0) := (blk_cell BK104.out 0).trans rfl
     have hcz6_1 : wr.cell? ⟨gb104, 1, none⟩ = some (.int .u64 a0_1) := (blk_cell BK104.out 1).trans rfl
     have hcz6_2 : wr.cell? ⟨gb104, 2, none⟩ = some (.slice A0_2 l0_2.length c0_2) := (blk_cell BK104.out 2).trans rfl
     have hfz6_0 := blk_frozen BK104.out 0
     have hfz6_1 := blk_frozen BK104.out 1
     have hfz6_2 := blk_frozen BK104.out 2
     go_wp2
     go_meet
     case rel => exact ⟨_, (false), (by first | rfl | (simp; done) | (simp [*]; done)), H', ⟨by have := HK1.out; first | omega | exact Nat.le_refl _⟩, ⟨by (with_reducible repeat (first | refine blk_drewN ?_ _ | refine blk_drew ?_ | refine blk_alloc ?_ _)); exact BK104.out⟩, ⟨by repeat (first | (with_reducible first | exact HB.out | apply below_alloc | apply pw_below_drewN | apply below_drew1 | refine below_set ?_ GE104.out) | exact HB.out)⟩⟩
   case rest =>
    clear HC3
    try clear p2
    try clear c4
    try clear c4b0
    try clear hcz5_0 hcz5_1 hcz5_2
    try clear hcz6_0 hcz6_1 hcz6_2
    try clear hfz5_0
    try clear hfz6_0
    try clear p2
    obtain ⟨kq, x14_2, rfl, HA, HJ2, BK104, HB⟩ := hcut
    cases kq with
    | zero => exact absurd HA.out (by simp [cleatref27_Big.j1])
    | succ kj2 =>
     have H := HA.out
     clear HA
     simp only [cleatref27_Big.j1] at H
     by_cases c7 : x14_2 = true
     ·
      subst c7
      have H1 : (if 0 ≤ x3_1 then (if x3_1 < (l0_2.length : Int) then (if (((rd_T57 l0_2 x3_1).f2).size : Int) > 10000 then (if (((rd_T57 l0_2 x3_1).f2).size : Int) ≤ 65536 then (some true) else (if (((rd_T57 l0_2 x3_1).f2).size : Int) > 70000 then (some true) else (cleatref27_Big.l0 kj2 (wrap64 (x3_1 + 1)) a0_0 a0_1 l0_2))) else (if (((rd_T57 l0_2 x3_1).f2).size : Int) > 70000 then (some true) else (cleatref27_Big.l0 kj2 (wrap64 (x3_1 + 1)) a0_0 a0_1 l0_2))) else (none)) else (none)) = some r := by rw [if_pos rfl] at H; exact H
      clear H
      have H := H1
      clear H1
      by_cases c8 : 0 ≤ x3_1
      ·
       rw [if_pos c8] at H
       have c8b0 : decide (0 ≤ x3_1) = true := decide_eq_true c8
       clear c8
       by_cases c9 : x3_1 < (l0_2.length : Int)
       ·
        rw [if_pos c9] at H
        have c9b0 : decide (x3_1 < (l0_2.length : Int)) = true := decide_eq_true c9
        clear c9
        by_cases c10 : (((rd_T57 l0_2 x3_1).f2).size : Int) > 10000
        ·
         rw [if_pos c10] at H
         have c10b0 : decide (10000 < (((rd_T57 l0_2 x3_1).f2).size : Int)) = true := decide_eq_true c10
         have c10b1 : decide (10000 < ((rd_T57 l0_2 x3_1).f2).size) = true := decide_eq_true (by omega)
         clear c10
         by_cases c11 : (((rd_T57 l0_2 x3_1).f2).size : Int) ≤ 65536
         ·
          rw [if_pos c11] at H
          have c11b0 : decide ((((rd_T57 l0_2 x3_1).f2).size : Int) ≤ 65536) = true := decide_eq_true c11
          have c11b1 : decide (((rd_T57 l0_2 x3_1).f2).size ≤ 65536) = true := decide_eq_true (by omega)
          clear c11
          obtain rfl := Option.some.inj H
          have hcz12_0 : wc.cell? ⟨gb104, 0, none⟩ = some (.int .u64 a0_0) := (blk_cell BK104.out 0).trans rfl
          have hcz12_1 : wc.cell? ⟨gb104, 1, none⟩ = some (.int .u64 a0_1) := (blk_cell BK104.out 1).trans rfl
          have hcz12_2 : wc.cell? ⟨gb104, 2, none⟩ = some (.slice A0_2 l0_2.length c0_2) := (blk_cell BK104.out 2).trans rfl
          have hfz12_0 := blk_frozen BK104.out 0
          have hfz12_1 := blk_frozen BK104.out 1
          have hfz12_2 := blk_frozen BK104.out 2
          have p105 : 0 ≤ (x3_1 : Int) := of_decide_eq_true (by first | (with_reducible assumption) | assumption)
          have q105 : x3_1 < (l0_2.length : Int) := of_decide_eq_true (by first | (with_reducible assumption) | assumption)
          obtain ⟨ad105, e105, hx105_0, hx105_1, hx105_2⟩ := at_T57 HR0_2.out x3_1 p105 q105
          cases e105
          replace hx105_0 := (HB.out.cell (World.block_lt_of_cell? w _ hx105_0)).trans hx105_0
          replace hx105_1 := (HB.out.cell (World.block_lt_of_cell? w _ hx105_1)).trans hx105_1
          replace hx105_2 := (HB.out.cell (World.block_lt_of_cell? w _ hx105_2)).trans hx105_2
          replace p105 := eq_true p105
          replace q105 := eq_true q105
          have p106 : 0 ≤ (x3_1 : Int) := of_decide_eq_true (by first | (with_reducible assumption) | assumption)
          have q106 : x3_1 < (l0_2.length : Int) := of_decide_eq_true (by first | (with_reducible assumption) | assumption)
          obtain ⟨ad106, e106, hx106_0, hx106_1, hx106_2⟩ := at_T57 HR0_2.out x3_1 p106 q106
          obtain rfl : ad105 = ad106 := (by injection e106)
          replace hx106_0 := (HB.out.cell (World.block_lt_of_cell? w _ hx106_0)).trans hx106_0
          replace hx106_1 := (HB.out.cell (World.block_lt_of_cell? w _ hx106_1)).trans hx106_1
          replace hx106_2 := (HB.out.cell (World.block_lt_of_cell? w _ hx106_2)).trans hx106_2
          replace p106 := eq_true p106
          replace q106 := eq_true q106
          go_wp2
          go_ret
          exact ⟨by first | rfl | (simp [errW_none, errW_some] <;> rfl) | (simp [*, errW_none, errW_some] <;> rfl), by repeat (first | (with_reducible first | exact HB.out | apply below_alloc | apply pw_below_drewN | apply below_drew1 | refine below_set ?_ GE104.out) | exact HB.out)⟩
         ·
          rw [if_neg c11] at H
          have c11b0 : decide ((((rd_T57 l0_2 x3_1).f2).size : Int) ≤ 65536) = false := decide_eq_false c11
          have c11b1 : decide (((rd_T57 l0_2 x3_1).f2).size ≤ 65536) = false := decide_eq_false (by omega)
          clear c11
          by_cases c13 : (((rd_T57 l0_2 x3_1).f2).size : Int) > 70000
          ·
           rw [if_pos c13] at H
           have c13b0 : decide (70000 < (((rd_T57 l0_2 x3_1).f2).size : Int)) = true := decide_eq_true c13
           have c13b1 : decide (70000 < ((rd_T57 l0_2 x3_1).f2).size) = true := decide_eq_true (by omega)
           clear c13
           obtain rfl := Option.some.inj H
           have hcz14_0 : wc.cell? ⟨gb104, 0, none⟩ = some (.int .u64 a0_0) := (blk_cell BK104.out 0).trans rfl
           have hcz14_1 : wc.cell? ⟨gb104, 1, none⟩ = some (.int .u64 a0_1) := (blk_cell BK104.out 1).trans rfl
           have hcz14_2 : wc.cell? ⟨gb104, 2, none⟩ = some (.slice A0_2 l0_2.length c0_2) := (blk_cell BK104.out 2).trans rfl
           have hfz14_0 := blk_frozen BK104.out 0
           have hfz14_1 := blk_frozen BK104.out 1
           have hfz14_2 := blk_frozen BK104.out 2
           have p105 : 0 ≤ (x3_1 : Int) := of_decide_eq_true (by first | (with_reducible assumption) | assumption)
           have q105 : x3_1 < (l0_2.length : Int) := of_decide_eq_true (by first | (with_reducible assumption) | assumption)
           obtain ⟨ad105, e105, hx105_0, hx105_1, hx105_2⟩ := at_T57 HR0_2.out x3_1 p105 q105
           cases e105
           replace hx105_0 := (HB.out.cell (World.block_lt_of_cell? w _ hx105_0)).trans hx105_0
           replace hx105_1 := (HB.out.cell (World.block_lt_of_cell? w _ hx105_1)).trans hx105_1
           replace hx105_2 := (HB.out.cell (World.block_lt_of_cell? w _ hx105_2)).trans hx105_2
           replace p105 := eq_true p105
           replace q105 := eq_true q105
           have p106 : 0 ≤ (x3_1 : Int) := of_decide_eq_true (by first | (with_reducible assumption) | assumption)
           have q106 : x3_1 < (l0_2.length : Int) := of_decide_eq_true (by first | (with_reducible assumption) | assumption)
           obtain ⟨ad106, e106, hx106_0, hx106_1, hx106_2⟩ := at_T57 HR0_2.out x3_1 p106 q106
           obtain rfl : ad105 = ad106 := (by injection e106)
           replace hx106_0 := (HB.out.cell (World.block_lt_of_cell? w _ hx106_0)).trans hx106_0
           replace hx106_1 := (HB.out.cell (World.block_lt_of_cell? w _ hx106_1)).trans hx106_1
           replace hx106_2 := (HB.out.cell (World.block_lt_of_cell? w _ hx106_2)).trans hx106_2
           replace p106 := eq_true p106
           replace q106 := eq_true q106
           have p107 : 0 ≤ (x3_1 : Int) := of_decide_eq_true (by first | (with_reducible assumption) | assumption)
           have q107 : x3_1 < (l0_2.length : Int) := of_decide_eq_true (by first | (with_reducible assumption) | assumption)
           obtain ⟨ad107, e107, hx107_0, hx107_1, hx107_2⟩ := at_T57 HR0_2.out x3_1 p107 q107
           obtain rfl : ad105 = ad107 := (by injection e107)
           replace hx107_0 := (HB.out.cell (World.block_lt_of_cell? w _ hx107_0)).trans hx107_0
           replace hx107_1 := (HB.out.cell (World.block_lt_of_cell? w _ hx107_1)).trans hx107_1
           replace hx107_2 := (HB.out.cell (World.block_lt_of_cell? w _ hx107_2)).trans hx107_2
           replace p107 := eq_true p107
           replace q107 := eq_true q107
           go_wp2
           go_ret
           exact ⟨by first | rfl | (simp [errW_none, errW_some] <;> rfl) | (simp [*, errW_none, errW_some] <;> rfl), by repeat (first | (with_reducible first | exact HB.out | apply below_alloc | apply pw_below_drewN | apply below_drew1 | refine below_set ?_ GE104.out) | exact HB.out)⟩
          ·
           rw [if_neg c13] at H
           have c13b0 : decide (70000 < (((rd_T57 l0_2 x3_1).f2).size : Int)) = false := decide_eq_false c13
           have c13b1 : decide (70000 < ((rd_T57 l0_2 x3_1).f2).size) = false := decide_eq_false (by omega)
           clear c13
           have H' := aq H
           clear H
           have hcz15_0 : wc.cell? ⟨gb104, 0, none⟩ = some (.int .u64 a0_0) := (blk_cell BK104.out 0).trans rfl
           have hcz15_1 : wc.cell? ⟨gb104, 1, none⟩ = some (.int .u64 a0_1) := (blk_cell BK104.out 1).trans rfl
           have hcz15_2 : wc.cell? ⟨gb104, 2, none⟩ = some (.slice A0_2 l0_2.length c0_2) := (blk_cell BK104.out 2).trans rfl
           have hfz15_0 := blk_frozen BK104.out 0
           have hfz15_1 := blk_frozen BK104.out 1
           have hfz15_2 := blk_frozen BK104.out 2
           have p105 : 0 ≤ (x3_1 : Int) := of_decide_eq_true (by first | (with_reducible assumption) | assumption)
           have q105 : x3_1 < (l0_2.length : Int) := of_decide_eq_true (by first | (with_reducible assumption) | assumption)
           obtain ⟨ad105, e105, hx105_0, hx105_1, hx105_2⟩ := at_T57 HR0_2.out x3_1 p105 q105
           cases e105
           replace hx105_0 := (HB.out.cell (World.block_lt_of_cell? w _ hx105_0)).trans hx105_0
           replace hx105_1 := (HB.out.cell (World.block_lt_of_cell? w _ hx105_1)).trans hx105_1
           replace hx105_2 := (HB.out.cell (World.block_lt_of_cell? w _ hx105_2)).trans hx105_2
           replace p105 := eq_true p105
           replace q105 := eq_true q105
           have p106 : 0 ≤ (x3_1 : Int) := of_decide_eq_true (by first | (with_reducible assumption) | assumption)
           have q106 : x3_1 < (l0_2.length : Int) := of_decide_eq_true (by first | (with_reducible assumption) | assumption)
           obtain ⟨ad106, e106, hx106_0, hx106_1, hx106_2⟩ := at_T57 HR0_2.out x3_1 p106 q106
           obtain rfl : ad105 = ad106 := (by injection e106)
           replace hx106_0 := (HB.out.cell (World.block_lt_of_cell? w _ hx106_0)).trans hx106_0
           replace hx106_1 := (HB.out.cell (World.block_lt_of_cell? w _ hx106_1)).trans hx106_1
           replace hx106_2 := (HB.out.cell (World.block_lt_of_cell? w _ hx106_2)).trans hx106_2
           replace p106 := eq_true p106
           replace q106 := eq_true q106
           have p107 : 0 ≤ (x3_1 : Int) := of_decide_eq_true (by first | (with_reducible assumption) | assumption)
           have q107 : x3_1 < (l0_2.length : Int) := of_decide_eq_true (by first | (with_reducible assumption) | assumption)
           obtain ⟨ad107, e107, hx107_0, hx107_1, hx107_2⟩ := at_T57 HR0_2.out x3_1 p107 q107
           obtain rfl : ad105 = ad107 := (by injection e107)
           replace hx107_0 := (HB.out.cell (World.block_lt_of_cell? w _ hx107_0)).trans hx107_0
           replace hx107_1 := (HB.out.cell (World.block_lt_of_cell? w _ hx107_1)).trans hx107_1
           replace hx107_2 := (HB.out.cell (World.block_lt_of_cell? w _ hx107_2)).trans hx107_2
           replace p107 := eq_true p107
           replace q107 := eq_true q107
           go_wp2
           go_roundg kj2
           case measure => have := HK1.out; have := HJ2.out; omega
           case rel => exact ⟨(wrap64 (x3_1 + 1)), (by first | rfl | (simp; done) | (simp [*]; done)), H', ⟨by have := HK1.out; have := HJ2.out; omega⟩, ⟨by (with_reducible repeat (first | refine blk_drewN ?_ _ | refine blk_drew ?_ | refine blk_alloc ?_ _)); exact BK104.out⟩, ⟨by repeat (first | (with_reducible first | exact HB.out | apply below_alloc | apply pw_below_drewN | apply below_drew1 | refine below_set ?_ GE104.out) | exact HB.out)⟩⟩
        ·
         rw [if_neg c10] at H
         have c10b0 : decide (10000 < (((rd_T57 l0_2 x3_1).f2).size : Int)) = false := decide_eq_false c10
         have c10b1 : decide (10000 < ((rd_T57 l0_2 x3_1).f2).size) = false := decide_eq_false (by omega)
         clear c10
         by_cases c16 : (((rd_T57 l0_2 x3_1).f2).size : Int) > 70000
         ·
          rw [if_pos c16] at H
          have c16b0 : decide (70000 < (((rd_T57 l0_2 x3_1).f2).size : Int)) = true := decide_eq_true c16
          have c16b1 : decide (70000 < ((rd_T57 l0_2 x3_1).f2).size) = true := decide_eq_true (by omega)
          clear c16
          obtain rfl := Option.some.inj H
          have hcz17_0 : wc.cell? ⟨gb104, 0, none⟩ = some (.int .u64 a0_0) := (blk_cell BK104.out 0).trans rfl
          have hcz17_1 : wc.cell? ⟨gb104, 1, none⟩ = some (.int .u64 a0_1) := (blk_cell BK104.out 1).trans rfl
          have hcz17_2 : wc.cell? ⟨gb104, 2, none⟩ = some (.slice A0_2 l0_2.length c0_2) := (blk_cell BK104.out 2).trans rfl
          have hfz17_0 := blk_frozen BK104.out 0
          have hfz17_1 := blk_frozen BK104.out 1
          have hfz17_2 := blk_frozen BK104.out 2
          have p105 : 0 ≤ (x3_1 : Int) := of_decide_eq_true (by first | (with_reducible assumption) | assumption)
          have q105 : x3_1 < (l0_2.length : Int) := of_decide_eq_true (by first | (with_reducible assumption) | assumption)
          obtain ⟨ad105, e105, hx105_0, hx105_1, hx105_2⟩ := at_T57 HR0_2.out x3_1 p105 q105
          cases e105
          replace hx105_0 := (HB.out.cell (World.block_lt_of_cell? w _ hx105_0)).trans hx105_0
          replace hx105_1 := (HB.out.cell (World.block_lt_of_cell? w _ hx105_1)).trans hx105_1
          replace hx105_2 := (HB.out.cell (World.block_lt_of_cell? w _ hx105_2)).trans hx105_2
          replace p105 := eq_true p105
          replace q105 := eq_true q105
          have p108 : 0 ≤ (x3_1 : Int) := of_decide_eq_true (by first | (with_reducible assumption) | assumption)
          have q108 : x3_1 < (l0_2.length : Int) := of_decide_eq_true (by first | (with_reducible assumption) | assumption)
          obtain ⟨ad108, e108, hx108_0, hx108_1, hx108_2⟩ := at_T57 HR0_2.out x3_1 p108 q108
          obtain rfl : ad105 = ad108 := (by injection e108)
          replace hx108_0 := (HB.out.cell (World.block_lt_of_cell? w _ hx108_0)).trans hx108_0
          replace hx108_1 := (HB.out.cell (World.block_lt_of_cell? w _ hx108_1)).trans hx108_1
          replace hx108_2 := (HB.out.cell (World.block_lt_of_cell? w _ hx108_2)).trans hx108_2
          replace p108 := eq_true p108
          replace q108 := eq_true q108
          go_wp2
          go_ret
          exact ⟨by first | rfl | (simp [errW_none, errW_some] <;> rfl) | (simp [*, errW_none, errW_some] <;> rfl), by repeat (first | (with_reducible first | exact HB.out | apply below_alloc | apply pw_below_drewN | apply below_drew1 | refine below_set ?_ GE104.out) | exact HB.out)⟩
         ·
          rw [if_neg c16] at H
          have c16b0 : decide (70000 < (((rd_T57 l0_2 x3_1).f2).size : Int)) = false := decide_eq_false c16
          have c16b1 : decide (70000 < ((rd_T57 l0_2 x3_1).f2).size) = false := decide_eq_false (by omega)
          clear c16
          have H' := aq H
          clear H
          have hcz18_0 : wc.cell? ⟨gb104, 0, none⟩ = some (.int .u64 a0_0) := (blk_cell BK104.out 0).trans rfl
          have hcz18_1 : wc.cell? ⟨gb104, 1, none⟩ = some (.int .u64 a0_1) := (blk_cell BK104.out 1).trans rfl
          have hcz18_2 : wc.cell? ⟨gb104, 2, none⟩ = some (.slice A0_2 l0_2.length c0_2) := (blk_cell BK104.out 2).trans rfl
          have hfz18_0 := blk_frozen BK104.out 0
          have hfz18_1 := blk_frozen BK104.out 1
          have hfz18_2 := blk_frozen BK104.out 2
          have p105 : 0 ≤ (x3_1 : Int) := of_decide_eq_true (by first | (with_reducible assumption) | assumption)
          have q105 : x3_1 < (l0_2.length : Int) := of_decide_eq_true (by first | (with_reducible assumption) | assumption)
          obtain ⟨ad105, e105, hx105_0, hx105_1, hx105_2⟩ := at_T57 HR0_2.out x3_1 p105 q105
          cases e105
          replace hx105_0 := (HB.out.cell (World.block_lt_of_cell? w _ hx105_0)).trans hx105_0
          replace hx105_1 := (HB.out.cell (World.block_lt_of_cell? w _ hx105_1)).trans hx105_1
          replace hx105_2 := (HB.out.cell (World.block_lt_of_cell? w _ hx105_2)).trans hx105_2
          replace p105 := eq_true p105
          replace q105 := eq_true q105
          have p108 : 0 ≤ (x3_1 : Int) := of_decide_eq_true (by first | (with_reducible assumption) | assumption)
          have q108 : x3_1 < (l0_2.length : Int) := of_decide_eq_true (by first | (with_reducible assumption) | assumption)
          obtain ⟨ad108, e108, hx108_0, hx108_1, hx108_2⟩ := at_T57 HR0_2.out x3_1 p108 q108
          obtain rfl : ad105 = ad108 := (by injection e108)
          replace hx108_0 := (HB.out.cell (World.block_lt_of_cell? w _ hx108_0)).trans hx108_0
          replace hx108_1 := (HB.out.cell (World.block_lt_of_cell? w _ hx108_1)).trans hx108_1
          replace hx108_2 := (HB.out.cell (World.block_lt_of_cell? w _ hx108_2)).trans hx108_2
          replace p108 := eq_true p108
          replace q108 := eq_true q108
          go_wp2
          go_roundg kj2
          case measure => have := HK1.out; have := HJ2.out; omega
          case rel => exact ⟨(wrap64 (x3_1 + 1)), (by first | rfl | (simp; done) | (simp [*]; done)), H', ⟨by have := HK1.out; have := HJ2.out; omega⟩, ⟨by (with_reducible repeat (first | refine blk_drewN ?_ _ | refine blk_drew ?_ | refine blk_alloc ?_ _)); exact BK104.out⟩, ⟨by repeat (first | (with_reducible first | exact HB.out | apply below_alloc | apply pw_below_drewN | apply below_drew1 | refine below_set ?_ GE104.out) | exact HB.out)⟩⟩
       ·
        rw [if_neg c9] at H
        exact absurd H (by simp)
      ·
       rw [if_neg c8] at H
       exact absurd H (by simp)
     ·
      replace c7 := Bool.eq_false_iff.mpr c7
      subst c7
      have H1 : (if (l0_2.length : Int) > 30 then (if (l0_2.length : Int) ≤ 256 then (some true) else (some (decide ((l0_2.length : Int) > 300)))) else (some (decide ((l0_2.length : Int) > 300)))) = some r := by rw [if_neg (show ¬ (false = true) by decide)] at H; exact H
      clear H
      have H := H1
      clear H1
      by_cases c19 : (l0_2.length : Int) > 30
      ·
       rw [if_pos c19] at H
       have c19b0 : decide (30 < (l0_2.length : Int)) = true := decide_eq_true c19
       have c19b1 : decide (30 < l0_2.length) = true := decide_eq_true (by omega)
       clear c19
       by_cases c20 : (l0_2.length : Int) ≤ 256
       ·
        rw [if_pos c20] at H
        have c20b0 : decide ((l0_2.length : Int) ≤ 256) = true := decide_eq_true c20
        have c20b1 : decide (l0_2.length ≤ 256) = true := decide_eq_true (by omega)
        clear c20
        obtain rfl := Option.some.inj H
        have hcz21_0 : wc.cell? ⟨gb104, 0, none⟩ = some (.int .u64 a0_0) := (blk_cell BK104.out 0).trans rfl
        have hcz21_1 : wc.cell? ⟨gb104, 1, none⟩ = some (.int .u64 a0_1) := (blk_cell BK104.out 1).trans rfl
        have hcz21_2 : wc.cell? ⟨gb104, 2, none⟩ = some (.slice A0_2 l0_2.length c0_2) := (blk_cell BK104.out 2).trans rfl
        have hfz21_0 := blk_frozen BK104.out 0
        have hfz21_1 := blk_frozen BK104.out 1
        have hfz21_2 := blk_frozen BK104.out 2
        go_wp2
        go_ret
        exact ⟨by first | rfl | (simp [errW_none, errW_some] <;> rfl) | (simp [*, errW_none, errW_some] <;> rfl), by repeat (first | (with_reducible first | exact HB.out | apply below_alloc | apply pw_below_drewN | apply below_drew1 | refine below_set ?_ GE104.out) | exact HB.out)⟩
       ·
        rw [if_neg c20] at H
        have c20b0 : decide ((l0_2.length : Int) ≤ 256) = false := decide_eq_false c20
        have c20b1 : decide (l0_2.length ≤ 256) = false := decide_eq_false (by omega)
        clear c20
        obtain rfl := Option.some.inj H
        have hcz22_0 : wc.cell? ⟨gb104, 0, none⟩ = some (.int .u64 a0_0) := (blk_cell BK104.out 0).trans rfl
        have hcz22_1 : wc.cell? ⟨gb104, 1, none⟩ = some (.int .u64 a0_1) := (blk_cell BK104.out 1).trans rfl
        have hcz22_2 : wc.cell? ⟨gb104, 2, none⟩ = some (.slice A0_2 l0_2.length c0_2) := (blk_cell BK104.out 2).trans rfl
        have hfz22_0 := blk_frozen BK104.out 0
        have hfz22_1 := blk_frozen BK104.out 1
        have hfz22_2 := blk_frozen BK104.out 2
        go_wp2
        go_ret
        exact ⟨by first | rfl | (simp [errW_none, errW_some] <;> rfl) | (simp [*, errW_none, errW_some] <;> rfl), by repeat (first | (with_reducible first | exact HB.out | apply below_alloc | apply pw_below_drewN | apply below_drew1 | refine below_set ?_ GE104.out) | exact HB.out)⟩
      ·
       rw [if_neg c19] at H
       have c19b0 : decide (30 < (l0_2.length : Int)) = false := decide_eq_false c19
       have c19b1 : decide (30 < l0_2.length) = false := decide_eq_false (by omega)
       clear c19
       obtain rfl := Option.some.inj H
       have hcz23_0 : wc.cell? ⟨gb104, 0, none⟩ = some (.int .u64 a0_0) := (blk_cell BK104.out 0).trans rfl
       have hcz23_1 : wc.cell? ⟨gb104, 1, none⟩ = some (.int .u64 a0_1) := (blk_cell BK104.out 1).trans rfl
       have hcz23_2 : wc.cell? ⟨gb104, 2, none⟩ = some (.slice A0_2 l0_2.length c0_2) := (blk_cell BK104.out 2).trans rfl
       have hfz23_0 := blk_frozen BK104.out 0
       have hfz23_1 := blk_frozen BK104.out 1
       have hfz23_2 := blk_frozen BK104.out 2
       go_wp2
       go_ret
       exact ⟨by first | rfl | (simp [errW_none, errW_some] <;> rfl) | (simp [*, errW_none, errW_some] <;> rfl), by repeat (first | (with_reducible first | exact HB.out | apply below_alloc | apply pw_below_drewN | apply below_drew1 | refine below_set ?_ GE104.out) | exact HB.out)⟩
def stringslite_HasPrefix.f (a0 : ByteArray) (a1 : ByteArray) : Option (Bool) := if (a0.size : Int) ≥ (a1.size : Int) then (if 0 ≤ (a1.size : Int) then (if (a1.size : Int) ≤ (a0.size : Int) then (some ((a0.extract 0 ((a1.size : Int) : Int).toNat).toList == a1.toList)) else (none)) else (none)) else (some false)
set_option maxHeartbeats 8000000 in
set_option maxRecDepth 100000 in
theorem stringslite_HasPrefix.calls (a0 : ByteArray) (a1 : ByteArray) (r : Bool) (w : World) (h : stringslite_HasPrefix.f a0 a1 = some r) :
    Calls Tryz.prog 75 #[.string a0, .string a1] w fun e w' => e = .returned (.bool r) ∧ Drawn0 w w' := by
 have H : (if (a0.size : Int) ≥ (a1.size : Int) then (if 0 ≤ (a1.size : Int) then (if (a1.size : Int) ≤ (a0.size : Int) then (some ((a0.extract 0 ((a1.size : Int) : Int).toNat).toList == a1.toList)) else (none)) else (none)) else (some false)) = some r := h
 clear h
 by_cases c3 : (a0.size : Int) ≥ (a1.size : Int)
 ·
  rw [if_pos c3] at H
  have c3b0 : decide ((a1.size : Int) ≤ (a0.size : Int)) = true := decide_eq_true c3
  have c3b1 : decide (a1.size ≤ a0.size) = true := decide_eq_true (Int.ofNat_le.mp c3)
  clear c3
  by_cases c4 : 0 ≤ (a1.size : Int)
  ·
   rw [if_pos c4] at H
   have c4b0 := eq_true c4
   have c4b1 : decide (0 ≤ (a1.size : Int)) = true := decide_eq_true c4
   clear c4
   by_cases c5 : (a1.size : Int) ≤ (a0.size : Int)
   ·
    rw [if_pos c5] at H
    have c5b0 := eq_true c5
    have c5b1 : decide ((a1.size : Int) ≤ (a0.size : Int)) = true := decide_eq_true c5
    clear c5
    obtain rfl := Option.some.inj H
    go_enter Tryz.func75, Tryz.ntmps75
    go_wp2
    go_ret
    exact ⟨by first | rfl | (simp; done) | (simp [*]; done), by repeat (first | exact Drawn0.refl _ | apply Drawn0.step)⟩
   ·
    rw [if_neg c5] at H
    exact absurd H (by simp)
  ·
   rw [if_neg c4] at H
   exact absurd H (by simp)
 ·
  rw [if_neg c3] at H
  have c3b0 : decide ((a1.size : Int) ≤ (a0.size : Int)) = false := decide_eq_false c3
  have c3b1 : decide (a1.size ≤ a0.size) = false := decide_eq_false (fun h => c3 (Int.ofNat_le.mpr h))
  clear c3
  obtain rfl := Option.some.inj H
  go_enter Tryz.func75, Tryz.ntmps75
  go_wp2
  go_ret
  exact ⟨by first | rfl | (simp; done) | (simp [*]; done), by repeat (first | exact Drawn0.refl _ | apply Drawn0.step)⟩
def bits_Len64.j0 : Nat → Int → Int → Option (Int)
 | 0, _, _ => none
 | k + 1, x0, x2 => if x0 ≥ 65536 then (if (x0 / 65536) ≥ 256 then (if 0 ≤ (((x0 / 65536) / 256) % 256) then (if (((x0 / 65536) / 256) % 256) < 256 then (some (wrap64 ((wrap64 ((wrap64 (x2 + 16)) + 8)) + (wrap64 (bt (⟨#[0, 1, 2, 2, 3, 3, 3, 3, 4, 4, 4, 4, 4, 4, 4, 4, 5, 5, 5, 5, 5, 5, 5, 5, 5, 5, 5, 5, 5, 5, 5, 5, 6, 6, 6, 6, 6, 6, 6, 6, 6, 6, 6, 6, 6, 6, 6, 6, 6, 6, 6, 6, 6, 6, 6, 6, 6, 6, 6, 6, 6, 6, 6, 6, 7, 7, 7, 7, 7, 7, 7, 7, 7, 7, 7, 7, 7, 7, 7, 7, 7, 7, 7, 7, 7, 7, 7, 7, 7, 7, 7, 7, 7, 7, 7, 7, 7, 7, 7, 7, 7, 7, 7, 7, 7, 7, 7, 7, 7, 7, 7, 7, 7, 7, 7, 7, 7, 7, 7, 7, 7, 7, 7, 7, 7, 7, 7, 7, 8, 8, 8, 8, 8, 8, 8, 8, 8, 8, 8, 8, 8, 8, 8, 8, 8, 8, 8, 8, 8, 8, 8, 8, 8, 8, 8, 8, 8, 8, 8, 8, 8, 8, 8, 8, 8, 8, 8, 8, 8, 8, 8, 8, 8, 8, 8, 8, 8, 8, 8, 8, 8, 8, 8, 8, 8, 8, 8, 8, 8, 8, 8, 8, 8, 8, 8, 8, 8, 8, 8, 8, 8, 8, 8, 8, 8, 8, 8, 8, 8, 8, 8, 8, 8, 8, 8, 8, 8, 8, 8, 8, 8, 8, 8, 8, 8, 8, 8, 8, 8, 8, 8, 8, 8, 8, 8, 8, 8, 8, 8, 8, 8, 8, 8, 8, 8, 8, 8, 8, 8, 8, 8, 8, 8, 8, 8, 8]⟩ : ByteArray) (((x0 / 65536) / 256) % 256)))))) else (none)) else (none)) else (if 0 ≤ ((x0 / 65536) % 256) then (if ((x0 / 65536) % 256) < 256 then (some (wrap64 ((wrap64 (x2 + 16)) + (wrap64 (bt (⟨#[0, 1, 2, 2, 3, 3, 3, 3, 4, 4, 4, 4, 4, 4, 4, 4, 5, 5, 5, 5, 5, 5, 5, 5, 5, 5, 5, 5, 5, 5, 5, 5, 6, 6, 6, 6, 6, 6, 6, 6, 6, 6, 6, 6, 6, 6, 6, 6, 6, 6, 6, 6, 6, 6, 6, 6, 6, 6, 6, 6, 6, 6, 6, 6, 7, 7, 7, 7, 7, 7, 7, 7, 7, 7, 7, 7, 7, 7, 7, 7, 7, 7, 7, 7, 7, 7, 7, 7, 7, 7, 7, 7, 7, 7, 7, 7, 7, 7, 7, 7, 7, 7, 7, 7, 7, 7, 7, 7, 7, 7, 7, 7, 7, 7, 7, 7, 7, 7, 7, 7, 7, 7, 7, 7, 7, 7, 7, 7, 8, 8, 8, 8, 8, 8, 8, 8, 8, 8, 8, 8, 8, 8, 8, 8, 8, 8, 8, 8, 8, 8, 8, 8, 8, 8, 8, 8, 8, 8, 8, 8, 8, 8, 8, 8, 8, 8, 8, 8, 8, 8, 8, 8, 8, 8, 8, 8, 8, 8, 8, 8, 8, 8, 8, 8, 8, 8, 8, 8, 8, 8, 8, 8, 8, 8, 8, 8, 8, 8, 8, 8, 8, 8, 8, 8, 8, 8, 8, 8, 8, 8, 8, 8, 8, 8, 8, 8, 8, 8, 8, 8, 8, 8, 8, 8, 8, 8, 8, 8, 8, 8, 8, 8, 8, 8, 8, 8, 8, 8, 8, 8, 8, 8, 8, 8, 8, 8, 8, 8, 8, 8, 8, 8, 8, 8, 8, 8]⟩ : ByteArray) ((x0 / 65536) % 256)))))) else (none)) else (none))) else (if x0 ≥ 256 then (if 0 ≤ ((x0 / 256) % 256) then (if ((x0 / 256) % 256) < 256 then (some (wrap64 ((wrap64 (x2 + 8)) + (wrap64 (bt (⟨#[0, 1, 2, 2, 3, 3, 3, 3, 4, 4, 4, 4, 4, 4, 4, 4, 5, 5, 5, 5, 5, 5, 5, 5, 5, 5, 5, 5, 5, 5, 5, 5, 6, 6, 6, 6, 6, 6, 6, 6, 6, 6, 6, 6, 6, 6, 6, 6, 6, 6, 6, 6, 6, 6, 6, 6, 6, 6, 6, 6, 6, 6, 6, 6, 7, 7, 7, 7, 7, 7, 7, 7, 7, 7, 7, 7, 7, 7, 7, 7, 7, 7, 7, 7, 7, 7, 7, 7, 7, 7, 7, 7, 7, 7, 7, 7, 7, 7, 7, 7, 7, 7, 7, 7, 7, 7, 7, 7, 7, 7, 7, 7, 7, 7, 7, 7, 7, 7, 7, 7, 7, 7, 7, 7, 7, 7, 7, 7, 8, 8, 8, 8, 8, 8, 8, 8, 8, 8, 8, 8, 8, 8, 8, 8, 8, 8, 8, 8, 8, 8, 8, 8, 8, 8, 8, 8, 8, 8, 8, 8, 8, 8, 8, 8, 8, 8, 8, 8, 8, 8, 8, 8, 8, 8, 8, 8, 8, 8, 8, 8, 8, 8, 8, 8, 8, 8, 8, 8, 8, 8, 8, 8, 8, 8, 8, 8, 8, 8, 8, 8, 8, 8, 8, 8, 8, 8, 8, 8, 8, 8, 8, 8, 8, 8, 8, 8, 8, 8, 8, 8, 8, 8, 8, 8, 8, 8, 8, 8, 8, 8, 8, 8, 8, 8, 8, 8, 8, 8, 8, 8, 8, 8, 8, 8, 8, 8, 8, 8, 8, 8, 8, 8, 8, 8, 8, 8]⟩ : ByteArray) ((x0 / 256) % 256)))))) else (none)) else (none)) else (if 0 ≤ ((x0) % 256) then (if ((x0) % 256) < 256 then (some (wrap64 (x2 + (wrap64 (bt (⟨#[0, 1, 2, 2, 3, 3, 3, 3, 4, 4, 4, 4, 4, 4, 4, 4, 5, 5, 5, 5, 5, 5, 5, 5, 5, 5, 5, 5, 5, 5, 5, 5, 6, 6, 6, 6, 6, 6, 6, 6, 6, 6, 6, 6, 6, 6, 6, 6, 6, 6, 6, 6, 6, 6, 6, 6, 6, 6, 6, 6, 6, 6, 6, 6, 7, 7, 7, 7, 7, 7, 7, 7, 7, 7, 7, 7, 7, 7, 7, 7, 7, 7, 7, 7, 7, 7, 7, 7, 7, 7, 7, 7, 7, 7, 7, 7, 7, 7, 7, 7, 7, 7, 7, 7, 7, 7, 7, 7, 7, 7, 7, 7, 7, 7, 7, 7, 7, 7, 7, 7, 7, 7, 7, 7, 7, 7, 7, 7, 8, 8, 8, 8, 8, 8, 8, 8, 8, 8, 8, 8, 8, 8, 8, 8, 8, 8, 8, 8, 8, 8, 8, 8, 8, 8, 8, 8, 8, 8, 8, 8, 8, 8, 8, 8, 8, 8, 8, 8, 8, 8, 8, 8, 8, 8, 8, 8, 8, 8, 8, 8, 8, 8, 8, 8, 8, 8, 8, 8, 8, 8, 8, 8, 8, 8, 8, 8, 8, 8, 8, 8, 8, 8, 8, 8, 8, 8, 8, 8, 8, 8, 8, 8, 8, 8, 8, 8, 8, 8, 8, 8, 8, 8, 8, 8, 8, 8, 8, 8, 8, 8, 8, 8, 8, 8, 8, 8, 8, 8, 8, 8, 8, 8, 8, 8, 8, 8, 8, 8, 8, 8, 8, 8, 8, 8, 8, 8]⟩ : ByteArray) ((x0) % 256)))))) else (none)) else (none)))
def bits_Len64.f (k : Nat) (a0 : Int) : Option (Int) := if a0 ≥ 4294967296 then (bits_Len64.j0 k (a0 / 4294967296) 32) else (bits_Len64.j0 k a0 0)
set_option maxHeartbeats 8000000 in
set_option maxRecDepth 100000 in
theorem bits_Len64.calls (k : Nat) (a0 : Int) (r : Int) (w : World) (h : bits_Len64.f k a0 = some r) :
    Calls Tryz.prog 138 #[.int .u64 a0] w fun e w' => e = .returned (.int .i64 r) ∧ Drawn0 w w' := by
 have H : (if a0 ≥ 4294967296 then (bits_Len64.j0 k (a0 / 4294967296) 32) else (bits_Len64.j0 k a0 0)) = some r := h
 clear h
 have HC2 := aq H
 clear H
 go_enter Tryz.func138, Tryz.ntmps138
 go_upto_if 4 with (fail)
 go_cut [0, 2] (fun v0 v2 wc => ∃ (kq : Nat) (x0_1 : Int) (x2_1 : Int), v0 = .int .u64 x0_1 ∧ v2 = .int .i64 x2_1 ∧ Aside0 (bits_Len64.j0 kq x0_1 x2_1 = some r) ∧ Aside0 (kq ≤ k) ∧ Drawn0 w wc)
 case first =>
  have H := HC2.out
  clear HC2
  (try (rw [drewN_self w]; have n0_ := fun n_ => pw_below_drewN HB.out n_; clear HB; generalize hq_ : World.drewN w _ = w; have HB := aq (hq_ ▸ n0_ _); clear hq_ n0_))
  by_cases c3 : a0 ≥ 4294967296
  ·
   rw [if_pos c3] at H
   have c3b0 : decide (4294967296 ≤ a0) = true := decide_eq_true c3
   clear c3
   (first | rw [c3b0] | (simp only [i64_w, i32_w]; rw [c3b0]) | skip)
   have H' := aq H
   clear H
   go_wp2
   go_meet
   case rel => exact ⟨_, (a0 / 4294967296), (32), (by first | rfl | (simp; done) | (simp [*]; done)), (by first | rfl | (simp; done) | (simp [*]; done)), H', ⟨by first | omega | exact Nat.le_refl _⟩, by repeat (first | exact Drawn0.refl _ | apply Drawn0.step)⟩
  ·
   rw [if_neg c3] at H
   have c3b0 : decide (4294967296 ≤ a0) = false := decide_eq_false c3
   clear c3
   (first | rw [c3b0] | (simp only [i64_w, i32_w]; rw [c3b0]) | skip)
   have H' := aq H
   clear H
   go_wp2
   go_meet
   case rel => exact ⟨_, (a0), (0), (by first | rfl | (simp; done) | (simp [*]; done)), (by first | rfl | (simp; done) | (simp [*]; done)), H', ⟨by first | omega | exact Nat.le_refl _⟩, by repeat (first | exact Drawn0.refl _ | apply Drawn0.step)⟩
 case rest =>
  clear HC2
  try clear c1
  try clear p2
  try clear c3
  try clear c3b0
  obtain ⟨kq, x0_1, x2_1, rfl, rfl, HA, HJ1, ⟨mc1, rfl⟩⟩ := hcut
  cases kq with
  | zero => exact absurd HA.out (by simp [bits_Len64.j0])
  | succ kj1 =>
   have H := HA.out
   clear HA
   simp only [bits_Len64.j0] at H
   by_cases c4 : x0_1 ≥ 65536
   ·
    rw [if_pos c4] at H
    have c4b0 : decide (65536 ≤ x0_1) = true := decide_eq_true c4
    clear c4
    by_cases c5 : (x0_1 / 65536) ≥ 256
    ·
     rw [if_pos c5] at H
     have c5b0 : decide (256 ≤ (x0_1 / 65536)) = true := decide_eq_true c5
     clear c5
     obtain ⟨ji6, hji6⟩ : ∃ j_ : Int, (((x0_1 / 65536) / 256) % 256) = j_ := ⟨_, rfl⟩
     replace H : (if 0 ≤ (ji6) then (if (ji6) < 256 then (some (wrap64 ((wrap64 ((wrap64 (x2_1 + 16)) + 8)) + (wrap64 (bt (⟨#[0, 1, 2, 2, 3, 3, 3, 3, 4, 4, 4, 4, 4, 4, 4, 4, 5, 5, 5, 5, 5, 5, 5, 5, 5, 5, 5, 5, 5, 5, 5, 5, 6, 6, 6, 6, 6, 6, 6, 6, 6, 6, 6, 6, 6, 6, 6, 6, 6, 6, 6, 6, 6, 6, 6, 6, 6, 6, 6, 6, 6, 6, 6, 6, 7, 7, 7, 7, 7, 7, 7, 7, 7, 7, 7, 7, 7, 7, 7, 7, 7, 7, 7, 7, 7, 7, 7, 7, 7, 7, 7, 7, 7, 7, 7, 7, 7, 7, 7, 7, 7, 7, 7, 7, 7, 7, 7, 7, 7, 7, 7, 7, 7, 7, 7, 7, 7, 7, 7, 7, 7, 7, 7, 7, 7, 7, 7, 7, 8, 8, 8, 8, 8, 8, 8, 8, 8, 8, 8, 8, 8, 8, 8, 8, 8, 8, 8, 8, 8, 8, 8, 8, 8, 8, 8, 8, 8, 8, 8, 8, 8, 8, 8, 8, 8, 8, 8, 8, 8, 8, 8, 8, 8, 8, 8, 8, 8, 8, 8, 8, 8, 8, 8, 8, 8, 8, 8, 8, 8, 8, 8, 8, 8, 8, 8, 8, 8, 8, 8, 8, 8, 8, 8, 8, 8, 8, 8, 8, 8, 8, 8, 8, 8, 8, 8, 8, 8, 8, 8, 8, 8, 8, 8, 8, 8, 8, 8, 8, 8, 8, 8, 8, 8, 8, 8, 8, 8, 8, 8, 8, 8, 8, 8, 8, 8, 8, 8, 8, 8, 8, 8, 8, 8, 8, 8, 8]⟩ : ByteArray) (ji6)))))) else (none)) else (none)) = some r := by first | (rw [hji6] at H; exact H) | (simp only [hji6] at H ⊢; exact H)
     by_cases c7 : 0 ≤ (ji6)
     ·
      rw [if_pos c7] at H
      have c7b0 : decide (0 ≤ (ji6)) = true := decide_eq_true c7
      clear c7
      by_cases c8 : (ji6) < 256
      ·
       rw [if_pos c8] at H
       have c8b0 : decide ((ji6) < 256) = true := decide_eq_true c8
       clear c8
       obtain rfl := Option.some.inj H
       have p9 : 0 ≤ ((ji6) : Int) := of_decide_eq_true (by first | (with_reducible assumption) | assumption)
       have q9 : (ji6) < (256 : Int) := of_decide_eq_true (by first | (with_reducible assumption) | assumption)
       have hx9 := bt_at (⟨#[0, 1, 2, 2, 3, 3, 3, 3, 4, 4, 4, 4, 4, 4, 4, 4, 5, 5, 5, 5, 5, 5, 5, 5, 5, 5, 5, 5, 5, 5, 5, 5, 6, 6, 6, 6, 6, 6, 6, 6, 6, 6, 6, 6, 6, 6, 6, 6, 6, 6, 6, 6, 6, 6, 6, 6, 6, 6, 6, 6, 6, 6, 6, 6, 7, 7, 7, 7, 7, 7, 7, 7, 7, 7, 7, 7, 7, 7, 7, 7, 7, 7, 7, 7, 7, 7, 7, 7, 7, 7, 7, 7, 7, 7, 7, 7, 7, 7, 7, 7, 7, 7, 7, 7, 7, 7, 7, 7, 7, 7, 7, 7, 7, 7, 7, 7, 7, 7, 7, 7, 7, 7, 7, 7, 7, 7, 7, 7, 8, 8, 8, 8, 8, 8, 8, 8, 8, 8, 8, 8, 8, 8, 8, 8, 8, 8, 8, 8, 8, 8, 8, 8, 8, 8, 8, 8, 8, 8, 8, 8, 8, 8, 8, 8, 8, 8, 8, 8, 8, 8, 8, 8, 8, 8, 8, 8, 8, 8, 8, 8, 8, 8, 8, 8, 8, 8, 8, 8, 8, 8, 8, 8, 8, 8, 8, 8, 8, 8, 8, 8, 8, 8, 8, 8, 8, 8, 8, 8, 8, 8, 8, 8, 8, 8, 8, 8, 8, 8, 8, 8, 8, 8, 8, 8, 8, 8, 8, 8, 8, 8, 8, 8, 8, 8, 8, 8, 8, 8, 8, 8, 8, 8, 8, 8, 8, 8, 8, 8, 8, 8, 8, 8, 8, 8, 8, 8]⟩ : ByteArray) (ji6)
       replace p9 := eq_true p9
       replace q9 := eq_true q9
       go_wp2
       go_ret
       exact ⟨by first | rfl | (simp; done) | (simp only [← hji6] <;> (first | rfl | simp)) | (simp [*]; done), by repeat (first | exact Drawn0.refl _ | apply Drawn0.step)⟩
      ·
       rw [if_neg c8] at H
       exact absurd H (by simp)
     ·
      rw [if_neg c7] at H
      exact absurd H (by simp)
    ·
     rw [if_neg c5] at H
     have c5b0 : decide (256 ≤ (x0_1 / 65536)) = false := decide_eq_false c5
     clear c5
     obtain ⟨ji10, hji10⟩ : ∃ j_ : Int, ((x0_1 / 65536) % 256) = j_ := ⟨_, rfl⟩
     replace H : (if 0 ≤ (ji10) then (if (ji10) < 256 then (some (wrap64 ((wrap64 (x2_1 + 16)) + (wrap64 (bt (⟨#[0, 1, 2, 2, 3, 3, 3, 3, 4, 4, 4, 4, 4, 4, 4, 4, 5, 5, 5, 5, 5, 5, 5, 5, 5, 5, 5, 5, 5, 5, 5, 5, 6, 6, 6, 6, 6, 6, 6, 6, 6, 6, 6, 6, 6, 6, 6, 6, 6, 6, 6, 6, 6, 6, 6, 6, 6, 6, 6, 6, 6, 6, 6, 6, 7, 7, 7, 7, 7, 7, 7, 7, 7, 7, 7, 7, 7, 7, 7, 7, 7, 7, 7, 7, 7, 7, 7, 7, 7, 7, 7, 7, 7, 7, 7, 7, 7, 7, 7, 7, 7, 7, 7, 7, 7, 7, 7, 7, 7, 7, 7, 7, 7, 7, 7, 7, 7, 7, 7, 7, 7, 7, 7, 7, 7, 7, 7, 7, 8, 8, 8, 8, 8, 8, 8, 8, 8, 8, 8, 8, 8, 8, 8, 8, 8, 8, 8, 8, 8, 8, 8, 8, 8, 8, 8, 8, 8, 8, 8, 8, 8, 8, 8, 8, 8, 8, 8, 8, 8, 8, 8, 8, 8, 8, 8, 8, 8, 8, 8, 8, 8, 8, 8, 8, 8, 8, 8, 8, 8, 8, 8, 8, 8, 8, 8, 8, 8, 8, 8, 8, 8, 8, 8, 8, 8, 8, 8, 8, 8, 8, 8, 8, 8, 8, 8, 8, 8, 8, 8, 8, 8, 8, 8, 8, 8, 8, 8, 8, 8, 8, 8, 8, 8, 8, 8, 8, 8, 8, 8, 8, 8, 8, 8, 8, 8, 8, 8, 8, 8, 8, 8, 8, 8, 8, 8, 8]⟩ : ByteArray) (ji10)))))) else (none)) else (none)) = some r := by first | (rw [hji10] at H; exact H) | (simp only [hji10] at H ⊢; exact H)
     by_cases c11 : 0 ≤ (ji10)
     ·
      rw [if_pos c11] at H
      have c11b0 : decide (0 ≤ (ji10)) = true := decide_eq_true c11
      clear c11
      by_cases c12 : (ji10) < 256
      ·
       rw [if_pos c12] at H
       have c12b0 : decide ((ji10) < 256) = true := decide_eq_true c12
       clear c12
       obtain rfl := Option.some.inj H
       have p13 : 0 ≤ ((ji10) : Int) := of_decide_eq_true (by first | (with_reducible assumption) | assumption)
       have q13 : (ji10) < (256 : Int) := of_decide_eq_true (by first | (with_reducible assumption) | assumption)
       have hx13 := bt_at (⟨#[0, 1, 2, 2, 3, 3, 3, 3, 4, 4, 4, 4, 4, 4, 4, 4, 5, 5, 5, 5, 5, 5, 5, 5, 5, 5, 5, 5, 5, 5, 5, 5, 6, 6, 6, 6, 6, 6, 6, 6, 6, 6, 6, 6, 6, 6, 6, 6, 6, 6, 6, 6, 6, 6, 6, 6, 6, 6, 6, 6, 6, 6, 6, 6, 7, 7, 7, 7, 7, 7, 7, 7, 7, 7, 7, 7, 7, 7, 7, 7, 7, 7, 7, 7, 7, 7, 7, 7, 7, 7, 7, 7, 7, 7, 7, 7, 7, 7, 7, 7, 7, 7, 7, 7, 7, 7, 7, 7, 7, 7, 7, 7, 7, 7, 7, 7, 7, 7, 7, 7, 7, 7, 7, 7, 7, 7, 7, 7, 8, 8, 8, 8, 8, 8, 8, 8, 8, 8, 8, 8, 8, 8, 8, 8, 8, 8, 8, 8, 8, 8, 8, 8, 8, 8, 8, 8, 8, 8, 8, 8, 8, 8, 8, 8, 8, 8, 8, 8, 8, 8, 8, 8, 8, 8, 8, 8, 8, 8, 8, 8, 8, 8, 8, 8, 8, 8, 8, 8, 8, 8, 8, 8, 8, 8, 8, 8, 8, 8, 8, 8, 8, 8, 8, 8, 8, 8, 8, 8, 8, 8, 8, 8, 8, 8, 8, 8, 8, 8, 8, 8, 8, 8, 8, 8, 8, 8, 8, 8, 8, 8, 8, 8, 8, 8, 8, 8, 8, 8, 8, 8, 8, 8, 8, 8, 8, 8, 8, 8, 8, 8, 8, 8, 8, 8, 8, 8]⟩ : ByteArray) (ji10)
       replace p13 := eq_true p13
       replace q13 := eq_true q13
       go_wp2
       go_ret
       exact ⟨by first | rfl | (simp; done) | (simp only [← hji10] <;> (first | rfl | simp)) | (simp [*]; done), by repeat (first | exact Drawn0.refl _ | apply Drawn0.step)⟩
      ·
       rw [if_neg c12] at H
       exact absurd H (by simp)
     ·
      rw [if_neg c11] at H
      exact absurd H (by simp)
   ·
    rw [if_neg c4] at H
    have c4b0 : decide (65536 ≤ x0_1) = false := decide_eq_false c4
    clear c4
    by_cases c14 : x0_1 ≥ 256
    ·
     rw [if_pos c14] at H
     have c14b0 : decide (256 ≤ x0_1) = true := decide_eq_true c14
     clear c14
     obtain ⟨ji15, hji15⟩ : ∃ j_ : Int, ((x0_1 / 256) % 256) = j_ := ⟨_, rfl⟩
     replace H : (if 0 ≤ (ji15) then (if (ji15) < 256 then (some (wrap64 ((wrap64 (x2_1 + 8)) + (wrap64 (bt (⟨#[0, 1, 2, 2, 3, 3, 3, 3, 4, 4, 4, 4, 4, 4, 4, 4, 5, 5, 5, 5, 5, 5, 5, 5, 5, 5, 5, 5, 5, 5, 5, 5, 6, 6, 6, 6, 6, 6, 6, 6, 6, 6, 6, 6, 6, 6, 6, 6, 6, 6, 6, 6, 6, 6, 6, 6, 6, 6, 6, 6, 6, 6, 6, 6, 7, 7, 7, 7, 7, 7, 7, 7, 7, 7, 7, 7, 7, 7, 7, 7, 7, 7, 7, 7, 7, 7, 7, 7, 7, 7, 7, 7, 7, 7, 7, 7, 7, 7, 7, 7, 7, 7, 7, 7, 7, 7, 7, 7, 7, 7, 7, 7, 7, 7, 7, 7, 7, 7, 7, 7, 7, 7, 7, 7, 7, 7, 7, 7, 8, 8, 8, 8, 8, 8, 8, 8, 8, 8, 8, 8, 8, 8, 8, 8, 8, 8, 8, 8, 8, 8, 8, 8, 8, 8, 8, 8, 8, 8, 8, 8, 8, 8, 8, 8, 8, 8, 8, 8, 8, 8, 8, 8, 8, 8, 8, 8, 8, 8, 8, 8, 8, 8, 8, 8, 8, 8, 8, 8, 8, 8, 8, 8, 8, 8, 8, 8, 8, 8, 8, 8, 8, 8, 8, 8, 8, 8, 8, 8, 8, 8, 8, 8, 8, 8, 8, 8, 8, 8, 8, 8, 8, 8, 8, 8, 8, 8, 8, 8, 8, 8, 8, 8, 8, 8, 8, 8, 8, 8, 8, 8, 8, 8, 8, 8, 8, 8, 8, 8, 8, 8, 8, 8, 8, 8, 8, 8]⟩ : ByteArray) (ji15)))))) else (none)) else (none)) = some r := by first | (rw [hji15] at H; exact H) | (simp only [hji15] at H ⊢; exact H)
     by_cases c16 : 0 ≤ (ji15)
     ·
      rw [if_pos c16] at H
      have c16b0 : decide (0 ≤ (ji15)) = true := decide_eq_true c16
      clear c16
      by_cases c17 : (ji15) < 256
      ·
       rw [if_pos c17] at H
       have c17b0 : decide ((ji15) < 256) = true := decide_eq_true c17
       clear c17
       obtain rfl := Option.some.inj H
       have p18 : 0 ≤ ((ji15) : Int) := of_decide_eq_true (by first | (with_reducible assumption) | assumption)
       have q18 : (ji15) < (256 : Int) := of_decide_eq_true (by first | (with_reducible assumption) | assumption)
       have hx18 := bt_at (⟨#[0, 1, 2, 2, 3, 3, 3, 3, 4, 4, 4, 4, 4, 4, 4, 4, 5, 5, 5, 5, 5, 5, 5, 5, 5, 5, 5, 5, 5, 5, 5, 5, 6, 6, 6, 6, 6, 6, 6, 6, 6, 6, 6, 6, 6, 6, 6, 6, 6, 6, 6, 6, 6, 6, 6, 6, 6, 6, 6, 6, 6, 6, 6, 6, 7, 7, 7, 7, 7, 7, 7, 7, 7, 7, 7, 7, 7, 7, 7, 7, 7, 7, 7, 7, 7, 7, 7, 7, 7, 7, 7, 7, 7, 7, 7, 7, 7, 7, 7, 7, 7, 7, 7, 7, 7, 7, 7, 7, 7, 7, 7, 7, 7, 7, 7, 7, 7, 7, 7, 7, 7, 7, 7, 7, 7, 7, 7, 7, 8, 8, 8, 8, 8, 8, 8, 8, 8, 8, 8, 8, 8, 8, 8, 8, 8, 8, 8, 8, 8, 8, 8, 8, 8, 8, 8, 8, 8, 8, 8, 8, 8, 8, 8, 8, 8, 8, 8, 8, 8, 8, 8, 8, 8, 8, 8, 8, 8, 8, 8, 8, 8, 8, 8, 8, 8, 8, 8, 8, 8, 8, 8, 8, 8, 8, 8, 8, 8, 8, 8, 8, 8, 8, 8, 8, 8, 8, 8, 8, 8, 8, 8, 8, 8, 8, 8, 8, 8, 8, 8, 8, 8, 8, 8, 8, 8, 8, 8, 8, 8, 8, 8, 8, 8, 8, 8, 8, 8, 8, 8, 8, 8, 8, 8, 8, 8, 8, 8, 8, 8, 8, 8, 8, 8, 8, 8, 8]⟩ : ByteArray) (ji15)
       replace p18 := eq_true p18
       replace q18 := eq_true q18
       go_wp2
       go_ret
       exact ⟨by first | rfl | (simp; done) | (simp only [← hji15] <;> (first | rfl | simp)) | (simp [*]; done), by repeat (first | exact Drawn0.refl _ | apply Drawn0.step)⟩
      ·
       rw [if_neg c17] at H
       exact absurd H (by simp)
     ·
      rw [if_neg c16] at H
      exact absurd H (by simp)
    ·
     rw [if_neg c14] at H
     have c14b0 : decide (256 ≤ x0_1) = false := decide_eq_false c14
     clear c14
     obtain ⟨ji19, hji19⟩ : ∃ j_ : Int, ((x0_1) % 256) = j_ := ⟨_, rfl⟩
     replace H : (if 0 ≤ (ji19) then (if (ji19) < 256 then (some (wrap64 (x2_1 + (wrap64 (bt (⟨#[0, 1, 2, 2, 3, 3, 3, 3, 4, 4, 4, 4, 4, 4, 4, 4, 5, 5, 5, 5, 5, 5, 5, 5, 5, 5, 5, 5, 5, 5, 5, 5, 6, 6, 6, 6, 6, 6, 6, 6, 6, 6, 6, 6, 6, 6, 6, 6, 6, 6, 6, 6, 6, 6, 6, 6, 6, 6, 6, 6, 6, 6, 6, 6, 7, 7, 7, 7, 7, 7, 7, 7, 7, 7, 7, 7, 7, 7, 7, 7, 7, 7, 7, 7, 7, 7, 7, 7, 7, 7, 7, 7, 7, 7, 7, 7, 7, 7, 7, 7, 7, 7, 7, 7, 7, 7, 7, 7, 7, 7, 7, 7, 7, 7, 7, 7, 7, 7, 7, 7, 7, 7, 7, 7, 7, 7, 7, 7, 8, 8, 8, 8, 8, 8, 8, 8, 8, 8, 8, 8, 8, 8, 8, 8, 8, 8, 8, 8, 8, 8, 8, 8, 8, 8, 8, 8, 8, 8, 8, 8, 8, 8, 8, 8, 8, 8, 8, 8, 8, 8, 8, 8, 8, 8, 8, 8, 8, 8, 8, 8, 8, 8, 8, 8, 8, 8, 8, 8, 8, 8, 8, 8, 8, 8, 8, 8, 8, 8, 8, 8, 8, 8, 8, 8, 8, 8, 8, 8, 8, 8, 8, 8, 8, 8, 8, 8, 8, 8, 8, 8, 8, 8, 8, 8, 8, 8, 8, 8, 8, 8, 8, 8, 8, 8, 8, 8, 8, 8, 8, 8, 8, 8, 8, 8, 8, 8, 8, 8, 8, 8, 8, 8, 8, 8, 8, 8]⟩ : ByteArray) (ji19)))))) else (none)) else (none)) = some r := by first | (rw [hji19] at H; exact H) | (simp only [hji19] at H ⊢; exact H)
     by_cases c20 : 0 ≤ (ji19)
     ·
      rw [if_pos c20] at H
      have c20b0 : decide (0 ≤ (ji19)) = true := decide_eq_true c20
      clear c20
      by_cases c21 : (ji19) < 256
      ·
       rw [if_pos c21] at H
       have c21b0 : decide ((ji19) < 256) = true := decide_eq_true c21
       clear c21
       obtain rfl := Option.some.inj H
       have p22 : 0 ≤ ((ji19) : Int) := of_decide_eq_true (by first | (with_reducible assumption) | assumption)
       have q22 : (ji19) < (256 : Int) := of_decide_eq_true (by first | (with_reducible assumption) | assumption)
       have hx22 := bt_at (⟨#[0, 1, 2, 2, 3, 3, 3, 3, 4, 4, 4, 4, 4, 4, 4, 4, 5, 5, 5, 5, 5, 5, 5, 5, 5, 5, 5, 5, 5, 5, 5, 5, 6, 6, 6, 6, 6, 6, 6, 6, 6, 6, 6, 6, 6, 6, 6, 6, 6, 6, 6, 6, 6, 6, 6, 6, 6, 6, 6, 6, 6, 6, 6, 6, 7, 7, 7, 7, 7, 7, 7, 7, 7, 7, 7, 7, 7, 7, 7, 7, 7, 7, 7, 7, 7, 7, 7, 7, 7, 7, 7, 7, 7, 7, 7, 7, 7, 7, 7, 7, 7, 7, 7, 7, 7, 7, 7, 7, 7, 7, 7, 7, 7, 7, 7, 7, 7, 7, 7, 7, 7, 7, 7, 7, 7, 7, 7, 7, 8, 8, 8, 8, 8, 8, 8, 8, 8, 8, 8, 8, 8, 8, 8, 8, 8, 8, 8, 8, 8, 8, 8, 8, 8, 8, 8, 8, 8, 8, 8, 8, 8, 8, 8, 8, 8, 8, 8, 8, 8, 8, 8, 8, 8, 8, 8, 8, 8, 8, 8, 8, 8, 8, 8, 8, 8, 8, 8, 8, 8, 8, 8, 8, 8, 8, 8, 8, 8, 8, 8, 8, 8, 8, 8, 8, 8, 8, 8, 8, 8, 8, 8, 8, 8, 8, 8, 8, 8, 8, 8, 8, 8, 8, 8, 8, 8, 8, 8, 8, 8, 8, 8, 8, 8, 8, 8, 8, 8, 8, 8, 8, 8, 8, 8, 8, 8, 8, 8, 8, 8, 8, 8, 8, 8, 8, 8, 8]⟩ : ByteArray) (ji19)
       replace p22 := eq_true p22
       replace q22 := eq_true q22
       go_wp2
       go_ret
       exact ⟨by first | rfl | (simp; done) | (simp only [← hji19] <;> (first | rfl | simp)) | (simp [*]; done), by repeat (first | exact Drawn0.refl _ | apply Drawn0.step)⟩
      ·
       rw [if_neg c21] at H
       exact absurd H (by simp)
     ·
      rw [if_neg c20] at H
      exact absurd H (by simp)
def wire_PutText.f (a0 : ByteArray) : Option ByteArray := if a0.size + 10 ≤ 140737488355328 then some ⟨(wire_putL a0.size ++ a0.data.toList).toArray⟩ else none
set_option maxHeartbeats 4000000 in
set_option maxRecDepth 100000 in
theorem wire_PutText.calls (a0 : ByteArray) (r : ByteArray) (w : World) (h : wire_PutText.f a0 = some r) : Calls Tryz.prog 30 #[.string a0] w fun e w' => e = .returned (.string r) ∧ Below w.heap.size w w' := by
  unfold wire_PutText.f at h
  split at h
  · rename_i ha
    obtain rfl := Option.some.inj h
    have hv : a0.size < 18446744073709551616 := by omega
    have HN := aq (bld_new 99 [] w)
    have hten := wire_putL_ten a0.size hv
    have hlen3 : ([] ++ Lib.byteCells (wire_putL a0.size)).length + a0.size ≤ 140737488355328 := by rw [List.nil_append, Lib.byteCells_length]; omega
    have hsz : ∀ w1, Below w.heap.size (w.alloc (.cells ⟨.pointer none :: .slice none 0 0 :: []⟩ 99)) w1 → w.heap.size ≤ w1.heap.size := fun w1 hl => by have := hl.size; simp at this; omega
    have conv : ∀ W, BldAt 99 [] w.heap.size w.heap.size (.pointer (some ⟨w.heap.size, 0, none⟩)) ([] ++ Lib.byteCells (wire_putL a0.size) ++ Lib.strCells a0) W → Bld 99 [] w.heap.size w.heap.size (Lib.byteCells (wire_putL a0.size ++ a0.data.toList)) W := fun W hW => .inr (by simpa [Lib.byteCells, Lib.strCells] using hW)
    have hne : wire_putL a0.size ++ a0.data.toList ≠ [] := by simp [wire_putL_ne]
    have HL3 := aq hlen3
    have HSZ := aq hsz
    have CONV := aq conv
    clear h hlen3 hsz conv
    go_enter Tryz.func30, Tryz.ntmps30
    go_wp2_with (first | (go_at_call 50; refine (wire_number a0.size w.heap.size w.heap.size [] _ hv HN.out (by simp) (by simp)).mono ?_; rintro e w1 ⟨rfl, hb1, hl1⟩) | (go_at_call 27; refine (bld_writeString (T := 99) (rest := []) (by decide) (by kernel_rfl) w.heap.size w.heap.size _ a0 _ hb1 HL3.out (HSZ.out _ hl1)).mono ?_; rintro e w2 ⟨rfl, hb2, hl2, _⟩) | (go_at_call 31; refine (bld_string (T := 99) (rest := []) w.heap.size w.heap.size (wire_putL a0.size ++ a0.data.toList) _ (CONV.out _ hb2) hne).mono ?_; rintro e w3 ⟨rfl, hl3⟩))
    go_ret
    exact ⟨rfl, ((Below.refl _ _).alloc (Nat.le_refl _) _).trans (hl1.trans (hl2.trans hl3))⟩
  · cases h
def stringslite_CutPrefix.f (a0 : ByteArray) (a1 : ByteArray) : Option (ByteArray × Bool) := (stringslite_HasPrefix.f a0 a1).bind fun t112 => (if t112 = true then (if 0 ≤ (a1.size : Int) then (if (a1.size : Int) ≤ (a0.size : Int) then (some (a0.extract ((a1.size : Int) : Int).toNat a0.size, true)) else (none)) else (none)) else (some (a0, false)))
set_option maxHeartbeats 8000000 in
set_option maxRecDepth 100000 in
theorem stringslite_CutPrefix.calls (a0 : ByteArray) (a1 : ByteArray) (r1 : ByteArray) (r2 : Bool) (w : World) (h : stringslite_CutPrefix.f a0 a1 = some (r1, r2)) :
    Calls Tryz.prog 54 #[.string a0, .string a1] w fun e w' => e = .returned (.tuple #[.string r1, .bool r2]) ∧ Drawn0 w w' := by
 have H : ((stringslite_HasPrefix.f a0 a1).bind fun t112 => (if t112 = true then (if 0 ≤ (a1.size : Int) then (if (a1.size : Int) ≤ (a0.size : Int) then (some (a0.extract ((a1.size : Int) : Int).toNat a0.size, true)) else (none)) else (none)) else (some (a0, false)))) = some (r1, r2) := h
 clear h
 replace H := Option.bind_eq_some_iff.mp H
 obtain ⟨t112, A30, H⟩ := H
 replace H : (if t112 = true then (if 0 ≤ (a1.size : Int) then (if (a1.size : Int) ≤ (a0.size : Int) then (some (a0.extract ((a1.size : Int) : Int).toNat a0.size, true)) else (none)) else (none)) else (some (a0, false))) = some (r1, r2) := H
 have A3 := aq A30
 clear A30
 by_cases c4 : t112 = true
 ·
  subst c4
  have H1 : (if 0 ≤ (a1.size : Int) then (if (a1.size : Int) ≤ (a0.size : Int) then (some (a0.extract ((a1.size : Int) : Int).toNat a0.size, true)) else (none)) else (none)) = some (r1, r2) := by rw [if_pos rfl] at H; exact H
  clear H
  have H := H1
  clear H1
  by_cases c5 : 0 ≤ (a1.size : Int)
  ·
   rw [if_pos c5] at H
   have c5b0 := eq_true c5
   have c5b1 : decide (0 ≤ (a1.size : Int)) = true := decide_eq_true c5
   clear c5
   by_cases c6 : (a1.size : Int) ≤ (a0.size : Int)
   ·
    rw [if_pos c6] at H
    have c6b0 := eq_true c6
    have c6b1 : decide ((a1.size : Int) ≤ (a0.size : Int)) = true := decide_eq_true c6
    clear c6
    simp only [Option.some.injEq, Prod.mk.injEq] at H
    obtain ⟨rfl, rfl⟩ := H
    go_enter Tryz.func54, Tryz.ntmps54
    go_wp2_with (first | ((with_reducible refine gate_callee (f := 75) rfl ?_); refine goesL_ (some 8) rfl rfl Tryz.func75 (by kernel_rfl) rfl #[.string a0, .string a1] rfl (by (try simp only [List.map_toArray, List.map_cons, List.map_nil]); first | done | rfl | (simp only [List.length_drop, List.length_take]; rfl)) ?_; (with_reducible refine (stringslite_HasPrefix.calls a0 a1 true _ A3.out).mono ?_); rintro e w' ⟨rfl, ⟨nd, rfl⟩⟩; refine ⟨_, rfl, ?_⟩))
    go_ret2
    exact ⟨by first | rfl | (simp; done) | (simp [*]; done), by repeat (first | exact Drawn0.refl _ | apply Drawn0.step)⟩
   ·
    rw [if_neg c6] at H
    exact absurd H (by simp)
  ·
   rw [if_neg c5] at H
   exact absurd H (by simp)
 ·
  replace c4 := Bool.eq_false_iff.mpr c4
  subst c4
  have H1 : (some (a0, false)) = some (r1, r2) := by rw [if_neg (show ¬ (false = true) by decide)] at H; exact H
  clear H
  have H := H1
  clear H1
  simp only [Option.some.injEq, Prod.mk.injEq] at H
  obtain ⟨rfl, rfl⟩ := H
  go_enter Tryz.func54, Tryz.ntmps54
  go_wp2_with (first | ((with_reducible refine gate_callee (f := 75) rfl ?_); refine goesL_ (some 8) rfl rfl Tryz.func75 (by kernel_rfl) rfl #[.string a0, .string a1] rfl (by (try simp only [List.map_toArray, List.map_cons, List.map_nil]); first | done | rfl | (simp only [List.length_drop, List.length_take]; rfl)) ?_; (with_reducible refine (stringslite_HasPrefix.calls a0 a1 false _ A3.out).mono ?_); rintro e w' ⟨rfl, ⟨nd, rfl⟩⟩; refine ⟨_, rfl, ?_⟩))
  go_ret2
  exact ⟨by first | rfl | (simp; done) | (simp [*]; done), by repeat (first | exact Drawn0.refl _ | apply Drawn0.step)⟩
def strings_CutPrefix.f (a0 : ByteArray) (a1 : ByteArray) : Option (ByteArray × Bool) := (stringslite_CutPrefix.f a0 a1).bind fun bt113 => (some (bt113.1, bt113.2))
set_option maxHeartbeats 8000000 in
set_option maxRecDepth 100000 in
theorem strings_CutPrefix.calls (a0 : ByteArray) (a1 : ByteArray) (r1 : ByteArray) (r2 : Bool) (w : World) (h : strings_CutPrefix.f a0 a1 = some (r1, r2)) :
    Calls Tryz.prog 33 #[.string a0, .string a1] w fun e w' => e = .returned (.tuple #[.string r1, .bool r2]) ∧ Drawn0 w w' := by
 have H : ((stringslite_CutPrefix.f a0 a1).bind fun bt113 => (some (bt113.1, bt113.2))) = some (r1, r2) := h
 clear h
 replace H := Option.bind_eq_some_iff.mp H
 obtain ⟨⟨t113, t114⟩, A30, H⟩ := H
 replace H : (some (t113, t114)) = some (r1, r2) := H
 have A3 := aq A30
 clear A30
 simp only [Option.some.injEq, Prod.mk.injEq] at H
 obtain ⟨rfl, rfl⟩ := H
 go_enter Tryz.func33, Tryz.ntmps33
 go_wp2_with (first | ((with_reducible refine gate_callee (f := 54) rfl ?_); refine goesL_ (some 8) rfl rfl Tryz.func54 (by kernel_rfl) rfl #[.string a0, .string a1] rfl (by (try simp only [List.map_toArray, List.map_cons, List.map_nil]); first | done | rfl | (simp only [List.length_drop, List.length_take]; rfl)) ?_; (with_reducible refine (stringslite_CutPrefix.calls a0 a1 t113 t114 _ A3.out).mono ?_); rintro e w' ⟨rfl, ⟨nd, rfl⟩⟩; refine ⟨_, rfl, ?_⟩))
 go_ret2
 exact ⟨by first | rfl | (simp; done) | (simp [*]; done), by repeat (first | exact Drawn0.refl _ | apply Drawn0.step)⟩
mutual
def wire_Get.l0 : Nat → ByteArray → Int → Int → Int → Option (Int × Int × Int)
 | 0, _, _, _, _ => none
 | k + 1, x0, x5, x9, x10 => if x10 < x9 then (if 0 ≤ x10 then (if x10 < (x0.size : Int) then (if x10 = 9 then (if (bt x0 x10) > 1 then (wire_Get.j1 k x0 x5 x10 (bt x0 x10) x9 x10 true) else (if x10 > 0 then (wire_Get.j1 k x0 x5 x10 (bt x0 x10) x9 x10 ((bt x0 x10) == 0)) else (wire_Get.j1 k x0 x5 x10 (bt x0 x10) x9 x10 false))) else (if x10 > 0 then (wire_Get.j1 k x0 x5 x10 (bt x0 x10) x9 x10 ((bt x0 x10) == 0)) else (wire_Get.j1 k x0 x5 x10 (bt x0 x10) x9 x10 false))) else (none)) else (none)) else (some (0, 0, 9))
def wire_Get.j1 : Nat → ByteArray → Int → Int → Int → Int → Int → Bool → Option (Int × Int × Int)
 | 0, _, _, _, _, _, _, _ => none
 | k + 1, x0, x5, x6, x7, x9, x10, x29 => if x29 = true then (some (0, 0, 3)) else (if 0 ≤ (wrap64 (7 * x6)) then (if x7 < 128 then (some (Go.bits .or .u64 x5 (shl .u64 (IntKind.u64.wrap (Go.bits .and .u8 x7 127)) (wrap64 (7 * x6))), wrap64 (x6 + 1), 0)) else (wire_Get.l0 k x0 (Go.bits .or .u64 x5 (shl .u64 (IntKind.u64.wrap (Go.bits .and .u8 x7 127)) (wrap64 (7 * x6)))) x9 (wrap64 (x10 + 1)))) else (none))
end
def wire_Get.f (k : Nat) (a0 : ByteArray) : Option (Int × Int × Int) := wire_Get.l0 k a0 0 (a0.size : Int) 0
set_option maxHeartbeats 8000000 in
set_option maxRecDepth 100000 in
theorem wire_Get.calls (k : Nat) (a0 : ByteArray) (r1 : Int) (r2 : Int) (r3 : Int) (w : World) (h : wire_Get.f k a0 = some (r1, r2, r3)) :
    Calls Tryz.prog 55 #[.string a0] w fun e w' => e = .returned (.tuple #[.int .u64 r1, .int .i64 r2, .int .i64 r3]) ∧ Drawn0 w w' := by
 have H : (wire_Get.l0 k a0 0 (a0.size : Int) 0) = some (r1, r2, r3) := h
 clear h
 have H' := aq H
 clear H
 go_enter Tryz.func55, Tryz.ntmps55
 go_wp2
 go_loopg [5, 10] k (fun kq v5 v10 w' => ∃ (x5_1 : Int) (x10_1 : Int), v5 = .int .u64 x5_1 ∧ v10 = .int .i64 x10_1 ∧ Aside0 (wire_Get.l0 kq a0 x5_1 (a0.size : Int) x10_1 = some (r1, r2, r3)) ∧ Aside0 (kq ≤ k) ∧ Drawn0 w w')
 case atStart => exact ⟨(0), (0), (by first | rfl | (simp; done) | (simp [*]; done)), (by first | rfl | (simp; done) | (simp [*]; done)), H', ⟨Nat.le_refl _⟩, by repeat (first | exact Drawn0.refl _ | apply Drawn0.step)⟩
 case round =>
  clear H'
  obtain ⟨x5_1, x10_1, rfl, rfl, HA, HK1, ⟨m1, rfl⟩⟩ := hrel
  cases gk with
  | zero => exact absurd HA.out (by simp [wire_Get.l0])
  | succ k1 =>
   have H := HA.out
   clear HA
   simp only [wire_Get.l0] at H
   by_cases c2 : x10_1 < (a0.size : Int)
   ·
    rw [if_pos c2] at H
    have c2b0 : decide (x10_1 < (a0.size : Int)) = true := decide_eq_true c2
    clear c2
    by_cases c3 : 0 ≤ x10_1
    ·
     rw [if_pos c3] at H
     have c3b0 : decide (0 ≤ x10_1) = true := decide_eq_true c3
     clear c3
     by_cases c4 : x10_1 < (a0.size : Int)
     ·
      rw [if_pos c4] at H
      have c4b0 : decide (x10_1 < (a0.size : Int)) = true := decide_eq_true c4
      clear c4
      have HC6 := aq H
      clear H
      have p5 : 0 ≤ (x10_1 : Int) := of_decide_eq_true (by first | (with_reducible assumption) | assumption)
      have q5 : x10_1 < (a0.size : Int) := of_decide_eq_true (by first | (with_reducible assumption) | assumption)
      have hx5 := bt_at a0 x10_1
      replace p5 := eq_true p5
      replace q5 := eq_true q5
      go_upto_region 6 with (fail)
      go_cut [29] (fun v29 wc => ∃ (kq : Nat) (x29_5 : Bool), v29 = .bool x29_5 ∧ Aside0 (wire_Get.j1 kq a0 x5_1 x10_1 (bt a0 x10_1) (a0.size : Int) x10_1 x29_5 = some (r1, r2, r3)) ∧ Aside0 (kq ≤ k1) ∧ Drawn0 w wc)
      case first =>
       have H := HC6.out
       clear HC6
       (try (rw [drewN_self wc]; have n0_ := fun n_ => pw_below_drewN HB.out n_; clear HB; generalize hq_ : World.drewN wc _ = wc; have HB := aq (hq_ ▸ n0_ _); clear hq_ n0_))
       by_cases c7 : x10_1 = 9
       ·
        rw [if_pos c7] at H
        have c7b0 : (x10_1 == 9) = true := beq_iff_eq.mpr c7
        have c7b1 : (x10_1 != 9) = false := bne_eq_false_iff_eq.mpr c7
        clear c7
        (first | rw [c7b0] | (simp only [i64_w, i32_w]; rw [c7b0]) | skip)
        by_cases c8 : (bt a0 x10_1) > 1
        ·
         rw [if_pos c8] at H
         have c8b0 : decide (1 < (bt a0 x10_1)) = true := decide_eq_true c8
         clear c8
         have H' := aq H
         clear H
         go_wp2
         go_meet
         case rel => exact ⟨_, (true), (by first | rfl | (simp; done) | (simp [*]; done)), H', ⟨by have := HK1.out; first | omega | exact Nat.le_refl _⟩, by repeat (first | exact Drawn0.refl _ | apply Drawn0.step)⟩
        ·
         rw [if_neg c8] at H
         have c8b0 : decide (1 < (bt a0 x10_1)) = false := decide_eq_false c8
         clear c8
         by_cases c9 : x10_1 > 0
         ·
          rw [if_pos c9] at H
          have c9b0 : decide (0 < x10_1) = true := decide_eq_true c9
          clear c9
          have H' := aq H
          clear H
          go_wp2
          go_meet
          case rel => exact ⟨_, (((bt a0 x10_1) == 0)), (by first | rfl | (simp; done) | (simp [*]; done)), H', ⟨by have := HK1.out; first | omega | exact Nat.le_refl _⟩, by repeat (first | exact Drawn0.refl _ | apply Drawn0.step)⟩
         ·
          rw [if_neg c9] at H
          have c9b0 : decide (0 < x10_1) = false := decide_eq_false c9
          clear c9
          have H' := aq H
          clear H
          go_wp2
          go_meet
          case rel => exact ⟨_, (false), (by first | rfl | (simp; done) | (simp [*]; done)), H', ⟨by have := HK1.out; first | omega | exact Nat.le_refl _⟩, by repeat (first | exact Drawn0.refl _ | apply Drawn0.step)⟩
       ·
        rw [if_neg c7] at H
        have c7b0 : (x10_1 == 9) = false := beq_eq_false_iff_ne.mpr c7
        have c7b1 : (x10_1 != 9) = true := bne_iff_ne.mpr c7
        (first | rw [c7b0] | (simp only [i64_w, i32_w]; rw [c7b0]) | skip)
        by_cases c10 : x10_1 > 0
        ·
         rw [if_pos c10] at H
         have c10b0 : decide (0 < x10_1) = true := decide_eq_true c10
         clear c10
         have H' := aq H
         clear H
         go_wp2
         go_meet
         case rel => exact ⟨_, (((bt a0 x10_1) == 0)), (by first | rfl | (simp; done) | (simp [*]; done)), H', ⟨by have := HK1.out; first | omega | exact Nat.le_refl _⟩, by repeat (first | exact Drawn0.refl _ | apply Drawn0.step)⟩
        ·
         rw [if_neg c10] at H
         have c10b0 : decide (0 < x10_1) = false := decide_eq_false c10
         clear c10
         have H' := aq H
         clear H
         go_wp2
         go_meet
         case rel => exact ⟨_, (false), (by first | rfl | (simp; done) | (simp [*]; done)), H', ⟨by have := HK1.out; first | omega | exact Nat.le_refl _⟩, by repeat (first | exact Drawn0.refl _ | apply Drawn0.step)⟩
      case rest =>
       clear HC6
       try clear c1
       try clear c2
       try clear c2b0
       try clear p2
       try clear c3
       try clear c3b0
       try clear c4
       try clear c4b0
       try clear c5
       try clear p5
       try clear q5
       try clear hx5
       try clear c7
       try clear c7b0
       try clear c7b1
       try clear c8
       try clear c8b0
       try clear c9
       try clear c9b0
       try clear c10
       try clear c10b0
       try clear p5
       try clear q5
       obtain ⟨kq, x29_5, rfl, HA, HJ5, ⟨mc5, rfl⟩⟩ := hcut
       cases kq with
       | zero => exact absurd HA.out (by simp [wire_Get.j1])
       | succ kj5 =>
        have H := HA.out
        clear HA
        simp only [wire_Get.j1] at H
        by_cases c11 : x29_5 = true
        ·
         subst c11
         have H1 : (some (0, 0, 3)) = some (r1, r2, r3) := by rw [if_pos rfl] at H; exact H
         clear H
         have H := H1
         clear H1
         simp only [Option.some.injEq, Prod.mk.injEq] at H
         obtain ⟨rfl, rfl, rfl⟩ := H
         go_wp2
         go_ret3
         exact ⟨by first | rfl | (simp; done) | (simp [*]; done), by repeat (first | exact Drawn0.refl _ | apply Drawn0.step)⟩
        ·
         replace c11 := Bool.eq_false_iff.mpr c11
         subst c11
         have H1 : (if 0 ≤ (wrap64 (7 * x10_1)) then (if (bt a0 x10_1) < 128 then (some (Go.bits .or .u64 x5_1 (shl .u64 (IntKind.u64.wrap (Go.bits .and .u8 (bt a0 x10_1) 127)) (wrap64 (7 * x10_1))), wrap64 (x10_1 + 1), 0)) else (wire_Get.l0 kj5 a0 (Go.bits .or .u64 x5_1 (shl .u64 (IntKind.u64.wrap (Go.bits .and .u8 (bt a0 x10_1) 127)) (wrap64 (7 * x10_1)))) (a0.size : Int) (wrap64 (x10_1 + 1)))) else (none)) = some (r1, r2, r3) := by rw [if_neg (show ¬ (false = true) by decide)] at H; exact H
         clear H
         have H := H1
         clear H1
         obtain ⟨ji12, hji12⟩ : ∃ j_ : Int, (wrap64 (7 * x10_1)) = j_ := ⟨_, rfl⟩
         replace H : (if 0 ≤ (ji12) then (if (bt a0 x10_1) < 128 then (some (Go.bits .or .u64 x5_1 (shl .u64 (IntKind.u64.wrap (Go.bits .and .u8 (bt a0 x10_1) 127)) (ji12)), wrap64 (x10_1 + 1), 0)) else (wire_Get.l0 kj5 a0 (Go.bits .or .u64 x5_1 (shl .u64 (IntKind.u64.wrap (Go.bits .and .u8 (bt a0 x10_1) 127)) (ji12))) (a0.size : Int) (wrap64 (x10_1 + 1)))) else (none)) = some (r1, r2, r3) := by first | (rw [hji12] at H; exact H) | (simp only [hji12] at H ⊢; exact H)
         have hji12w : (IntKind.i64.wrap (7 * x10_1)) = ji12 := (i64_w _).trans hji12
         by_cases c13 : 0 ≤ (ji12)
         ·
          rw [if_pos c13] at H
          have c13b0 := eq_true c13
          have c13b1 : decide (0 ≤ (ji12)) = true := decide_eq_true c13
          clear c13
          obtain ⟨ji14, hji14⟩ : ∃ j_ : Int, (shl .u64 (IntKind.u64.wrap (Go.bits .and .u8 (bt a0 x10_1) 127)) (ji12)) = j_ := ⟨_, rfl⟩
          replace H : (if (bt a0 x10_1) < 128 then (some (Go.bits .or .u64 x5_1 (ji14), wrap64 (x10_1 + 1), 0)) else (wire_Get.l0 kj5 a0 (Go.bits .or .u64 x5_1 (ji14)) (a0.size : Int) (wrap64 (x10_1 + 1)))) = some (r1, r2, r3) := by first | (rw [hji14] at H; exact H) | (simp only [hji14] at H ⊢; exact H)
          have hji14_ : (IntKind.u64.wrap ((IntKind.u64.wrap (Go.bits .and .u8 (bt a0 x10_1) 127)) * 2 ^ min (ji12).toNat 64)) = ji14 := hji14
          have hji14z : (ji12) ≤ 64 → (IntKind.u64.wrap ((IntKind.u64.wrap (Go.bits .and .u8 (bt a0 x10_1) 127)) * 2 ^ (ji12).toNat)) = ji14 := shl_small hji14
          by_cases c15 : (bt a0 x10_1) < 128
          ·
           rw [if_pos c15] at H
           have c15b0 : decide ((bt a0 x10_1) < 128) = true := decide_eq_true c15
           clear c15
           simp only [Option.some.injEq, Prod.mk.injEq] at H
           obtain ⟨rfl, rfl, rfl⟩ := H
           go_wp2
           go_ret3
           exact ⟨by first | rfl | (simp; done) | (simp only [← hji12, ← hji14] <;> (first | rfl | simp)) | (simp [*]; done), by repeat (first | exact Drawn0.refl _ | apply Drawn0.step)⟩
          ·
           rw [if_neg c15] at H
           have c15b0 : decide ((bt a0 x10_1) < 128) = false := decide_eq_false c15
           clear c15
           have H' := aq H
           clear H
           go_wp2
           go_roundg kj5
           case measure => have := HK1.out; have := HJ5.out; omega
           case rel => exact ⟨(Go.bits .or .u64 x5_1 (ji14)), (wrap64 (x10_1 + 1)), (by first | rfl | (simp; done) | (simp only [← hji14] <;> (first | rfl | simp)) | (simp [*]; done)), (by first | rfl | (simp; done) | (simp [*]; done)), H', ⟨by have := HK1.out; have := HJ5.out; omega⟩, by repeat (first | exact Drawn0.refl _ | apply Drawn0.step)⟩
         ·
          rw [if_neg c13] at H
          exact absurd H (by simp)
     ·
      rw [if_neg c4] at H
      exact absurd H (by simp)
    ·
     rw [if_neg c3] at H
     exact absurd H (by simp)
   ·
    rw [if_neg c2] at H
    have c2b0 : decide (x10_1 < (a0.size : Int)) = false := decide_eq_false c2
    clear c2
    simp only [Option.some.injEq, Prod.mk.injEq] at H
    obtain ⟨rfl, rfl, rfl⟩ := H
    go_wp2
    go_ret3
    exact ⟨by first | rfl | (simp; done) | (simp [*]; done), by repeat (first | exact Drawn0.refl _ | apply Drawn0.step)⟩
def wire_GetText.j0 : Nat → ByteArray → Int → Bool → Option (ByteArray × Int × Int)
 | 0, _, _, _ => none
 | k + 1, x0, x1, x15 => if x15 = true then (some ((⟨#[]⟩ : ByteArray), 0, 1)) else ((wire_Get.f k x0).bind fun bt115 => (if bt115.2.2 = 0 then (if bt115.1 > (IntKind.u64.wrap (x1)) then (some ((⟨#[]⟩ : ByteArray), 0, 2)) else (if (wrap64 (bt115.1)) > (wrap64 ((x0.size : Int) - bt115.2.1)) then (some ((⟨#[]⟩ : ByteArray), 0, 9)) else (if 0 ≤ bt115.2.1 then (if bt115.2.1 ≤ (x0.size : Int) then (if 0 ≤ bt115.1 then (if bt115.1 ≤ ((x0.extract (bt115.2.1 : Int).toNat x0.size).size : Int) then (some ((x0.extract (bt115.2.1 : Int).toNat x0.size).extract 0 (bt115.1 : Int).toNat, wrap64 (bt115.2.1 + (wrap64 (bt115.1))), 0)) else (none)) else (none)) else (none)) else (none)))) else (some ((⟨#[]⟩ : ByteArray), 0, bt115.2.2))))
def wire_GetText.f (k : Nat) (a0 : ByteArray) (a1 : Int) : Option (ByteArray × Int × Int) := if a1 < 0 then (wire_GetText.j0 k a0 a1 true) else (wire_GetText.j0 k a0 a1 (decide (a1 > 1000000)))
set_option maxHeartbeats 8000000 in
set_option maxRecDepth 100000 in
theorem wire_GetText.calls (k : Nat) (a0 : ByteArray) (a1 : Int) (r1 : ByteArray) (r2 : Int) (r3 : Int) (w : World) (h : wire_GetText.f k a0 a1 = some (r1, r2, r3)) :
    Calls Tryz.prog 56 #[.string a0, .int .i64 a1] w fun e w' => e = .returned (.tuple #[.string r1, .int .i64 r2, .int .i64 r3]) ∧ Drawn0 w w' := by
 have H : (if a1 < 0 then (wire_GetText.j0 k a0 a1 true) else (wire_GetText.j0 k a0 a1 (decide (a1 > 1000000)))) = some (r1, r2, r3) := h
 clear h
 have HC3 := aq H
 clear H
 go_enter Tryz.func56, Tryz.ntmps56
 go_upto_region 1 with (fail)
 go_cut [15] (fun v15 wc => ∃ (kq : Nat) (x15_2 : Bool), v15 = .bool x15_2 ∧ Aside0 (wire_GetText.j0 kq a0 a1 x15_2 = some (r1, r2, r3)) ∧ Aside0 (kq ≤ k) ∧ Drawn0 w wc)
 case first =>
  have H := HC3.out
  clear HC3
  (try (rw [drewN_self w]; have n0_ := fun n_ => pw_below_drewN HB.out n_; clear HB; generalize hq_ : World.drewN w _ = w; have HB := aq (hq_ ▸ n0_ _); clear hq_ n0_))
  by_cases c4 : a1 < 0
  ·
   rw [if_pos c4] at H
   have c4b0 : decide (a1 < 0) = true := decide_eq_true c4
   clear c4
   (first | rw [c4b0] | (simp only [i64_w, i32_w]; rw [c4b0]) | skip)
   have H' := aq H
   clear H
   go_wp2
   go_meet
   case rel => exact ⟨_, (true), (by first | rfl | (simp; done) | (simp [*]; done)), H', ⟨by first | omega | exact Nat.le_refl _⟩, by repeat (first | exact Drawn0.refl _ | apply Drawn0.step)⟩
  ·
   rw [if_neg c4] at H
   have c4b0 : decide (a1 < 0) = false := decide_eq_false c4
   clear c4
   (first | rw [c4b0] | (simp only [i64_w, i32_w]; rw [c4b0]) | skip)
   have H' := aq H
   clear H
   go_wp2
   go_meet
   case rel => exact ⟨_, (decide (a1 > 1000000)), (by first | rfl | (simp; done) | (simp [*]; done)), H', ⟨by first | omega | exact Nat.le_refl _⟩, by repeat (first | exact Drawn0.refl _ | apply Drawn0.step)⟩
 case rest =>
  clear HC3
  try clear p2
  try clear c4
  try clear c4b0
  obtain ⟨kq, x15_2, rfl, HA, HJ2, ⟨mc2, rfl⟩⟩ := hcut
  cases kq with
  | zero => exact absurd HA.out (by simp [wire_GetText.j0])
  | succ kj2 =>
   have H := HA.out
   clear HA
   simp only [wire_GetText.j0] at H
   by_cases c5 : x15_2 = true
   ·
    subst c5
    have H1 : (some ((⟨#[]⟩ : ByteArray), 0, 1)) = some (r1, r2, r3) := by rw [if_pos rfl] at H; exact H
    clear H
    have H := H1
    clear H1
    simp only [Option.some.injEq, Prod.mk.injEq] at H
    obtain ⟨rfl, rfl, rfl⟩ := H
    go_wp2
    go_ret3
    exact ⟨by first | rfl | (simp; done) | (simp [*]; done), by repeat (first | exact Drawn0.refl _ | apply Drawn0.step)⟩
   ·
    replace c5 := Bool.eq_false_iff.mpr c5
    subst c5
    have H1 : ((wire_Get.f kj2 a0).bind fun bt115 => (if bt115.2.2 = 0 then (if bt115.1 > (IntKind.u64.wrap (a1)) then (some ((⟨#[]⟩ : ByteArray), 0, 2)) else (if (wrap64 (bt115.1)) > (wrap64 ((a0.size : Int) - bt115.2.1)) then (some ((⟨#[]⟩ : ByteArray), 0, 9)) else (if 0 ≤ bt115.2.1 then (if bt115.2.1 ≤ (a0.size : Int) then (if 0 ≤ bt115.1 then (if bt115.1 ≤ ((a0.extract (bt115.2.1 : Int).toNat a0.size).size : Int) then (some ((a0.extract (bt115.2.1 : Int).toNat a0.size).extract 0 (bt115.1 : Int).toNat, wrap64 (bt115.2.1 + (wrap64 (bt115.1))), 0)) else (none)) else (none)) else (none)) else (none)))) else (some ((⟨#[]⟩ : ByteArray), 0, bt115.2.2)))) = some (r1, r2, r3) := by rw [if_neg (show ¬ (false = true) by decide)] at H; exact H
    clear H
    have H := H1
    clear H1
    replace H := Option.bind_eq_some_iff.mp H
    obtain ⟨⟨t115, t116, t117⟩, A60, H⟩ := H
    replace H : (if t117 = 0 then (if t115 > (IntKind.u64.wrap (a1)) then (some ((⟨#[]⟩ : ByteArray), 0, 2)) else (if (wrap64 (t115)) > (wrap64 ((a0.size : Int) - t116)) then (some ((⟨#[]⟩ : ByteArray), 0, 9)) else (if 0 ≤ t116 then (if t116 ≤ (a0.size : Int) then (if 0 ≤ t115 then (if t115 ≤ ((a0.extract (t116 : Int).toNat a0.size).size : Int) then (some ((a0.extract (t116 : Int).toNat a0.size).extract 0 (t115 : Int).toNat, wrap64 (t116 + (wrap64 (t115))), 0)) else (none)) else (none)) else (none)) else (none)))) else (some ((⟨#[]⟩ : ByteArray), 0, t117))) = some (r1, r2, r3) := H
    have A6 := aq A60
    clear A60
    by_cases c7 : t117 = 0
    ·
     rw [if_pos c7] at H
     have c7b0 : (t117 == 0) = true := beq_iff_eq.mpr c7
     have c7b1 : (t117 != 0) = false := bne_eq_false_iff_eq.mpr c7
     clear c7
     by_cases c8 : t115 > (IntKind.u64.wrap (a1))
     ·
      rw [if_pos c8] at H
      have c8b0 : decide ((IntKind.u64.wrap (a1)) < t115) = true := decide_eq_true c8
      clear c8
      simp only [Option.some.injEq, Prod.mk.injEq] at H
      obtain ⟨rfl, rfl, rfl⟩ := H
      go_wp2_with (first | ((with_reducible refine gate_callee (f := 55) rfl ?_); refine goesL_ (some 18) rfl rfl Tryz.func55 (by kernel_rfl) rfl #[.string a0] rfl (by (try simp only [List.map_toArray, List.map_cons, List.map_nil]); first | done | rfl | (simp only [List.length_drop, List.length_take]; rfl)) ?_; (with_reducible refine (wire_Get.calls kj2 a0 t115 t116 t117 _ A6.out).mono ?_); rintro e w' ⟨rfl, ⟨nd, rfl⟩⟩; refine ⟨_, rfl, ?_⟩))
      go_ret3
      exact ⟨by first | rfl | (simp; done) | (simp [*]; done), by repeat (first | exact Drawn0.refl _ | apply Drawn0.step)⟩
     ·
      rw [if_neg c8] at H
      have c8b0 : decide ((IntKind.u64.wrap (a1)) < t115) = false := decide_eq_false c8
      clear c8
      by_cases c9 : (wrap64 (t115)) > (wrap64 ((a0.size : Int) - t116))
      ·
       rw [if_pos c9] at H
       have c9b0 : decide ((wrap64 ((a0.size : Int) - t116)) < (wrap64 (t115))) = true := decide_eq_true c9
       clear c9
       simp only [Option.some.injEq, Prod.mk.injEq] at H
       obtain ⟨rfl, rfl, rfl⟩ := H
       go_wp2_with (first | ((with_reducible refine gate_callee (f := 55) rfl ?_); refine goesL_ (some 18) rfl rfl Tryz.func55 (by kernel_rfl) rfl #[.string a0] rfl (by (try simp only [List.map_toArray, List.map_cons, List.map_nil]); first | done | rfl | (simp only [List.length_drop, List.length_take]; rfl)) ?_; (with_reducible refine (wire_Get.calls kj2 a0 t115 t116 t117 _ A6.out).mono ?_); rintro e w' ⟨rfl, ⟨nd, rfl⟩⟩; refine ⟨_, rfl, ?_⟩))
       go_ret3
       exact ⟨by first | rfl | (simp; done) | (simp [*]; done), by repeat (first | exact Drawn0.refl _ | apply Drawn0.step)⟩
      ·
       rw [if_neg c9] at H
       have c9b0 : decide ((wrap64 ((a0.size : Int) - t116)) < (wrap64 (t115))) = false := decide_eq_false c9
       clear c9
       by_cases c10 : 0 ≤ t116
       ·
        rw [if_pos c10] at H
        have c10b0 := eq_true c10
        have c10b1 : decide (0 ≤ t116) = true := decide_eq_true c10
        clear c10
        by_cases c11 : t116 ≤ (a0.size : Int)
        ·
         rw [if_pos c11] at H
         have c11b0 := eq_true c11
         have c11b1 : decide (t116 ≤ (a0.size : Int)) = true := decide_eq_true c11
         clear c11
         by_cases c12 : 0 ≤ t115
         ·
          rw [if_pos c12] at H
          have c12b0 := eq_true c12
          have c12b1 : decide (0 ≤ t115) = true := decide_eq_true c12
          clear c12
          by_cases c13 : t115 ≤ ((a0.extract (t116 : Int).toNat a0.size).size : Int)
          ·
           rw [if_pos c13] at H
           have c13b0 := eq_true c13
           have c13b1 : decide (t115 ≤ ((a0.extract (t116 : Int).toNat a0.size).size : Int)) = true := decide_eq_true c13
           have c13s := c13
           try simp only [ByteArray.size_extract, Nat.min_self] at c13s
           clear c13
           simp only [Option.some.injEq, Prod.mk.injEq] at H
           obtain ⟨rfl, rfl, rfl⟩ := H
           go_wp2_with (first | ((with_reducible refine gate_callee (f := 55) rfl ?_); refine goesL_ (some 18) rfl rfl Tryz.func55 (by kernel_rfl) rfl #[.string a0] rfl (by (try simp only [List.map_toArray, List.map_cons, List.map_nil]); first | done | rfl | (simp only [List.length_drop, List.length_take]; rfl)) ?_; (with_reducible refine (wire_Get.calls kj2 a0 t115 t116 t117 _ A6.out).mono ?_); rintro e w' ⟨rfl, ⟨nd, rfl⟩⟩; refine ⟨_, rfl, ?_⟩))
           go_ret3
           exact ⟨by first | rfl | (simp; done) | (simp [*]; done), by repeat (first | exact Drawn0.refl _ | apply Drawn0.step)⟩
          ·
           rw [if_neg c13] at H
           exact absurd H (by simp)
         ·
          rw [if_neg c12] at H
          exact absurd H (by simp)
        ·
         rw [if_neg c11] at H
         exact absurd H (by simp)
       ·
        rw [if_neg c10] at H
        exact absurd H (by simp)
    ·
     rw [if_neg c7] at H
     have c7b0 : (t117 == 0) = false := beq_eq_false_iff_ne.mpr c7
     have c7b1 : (t117 != 0) = true := bne_iff_ne.mpr c7
     simp only [Option.some.injEq, Prod.mk.injEq] at H
     obtain ⟨rfl, rfl, rfl⟩ := H
     go_wp2_with (first | ((with_reducible refine gate_callee (f := 55) rfl ?_); refine goesL_ (some 18) rfl rfl Tryz.func55 (by kernel_rfl) rfl #[.string a0] rfl (by (try simp only [List.map_toArray, List.map_cons, List.map_nil]); first | done | rfl | (simp only [List.length_drop, List.length_take]; rfl)) ?_; (with_reducible refine (wire_Get.calls kj2 a0 t115 t116 t117 _ A6.out).mono ?_); rintro e w' ⟨rfl, ⟨nd, rfl⟩⟩; refine ⟨_, rfl, ?_⟩))
     go_ret3
     exact ⟨by first | rfl | (simp; done) | (simp [*]; done), by repeat (first | exact Drawn0.refl _ | apply Drawn0.step)⟩
mutual
def bits_Rotate.l0 : Nat → Int → Int → Int → Bool → Int → Option (Int × Int)
 | 0, _, _, _, _, _ => none
 | k + 1, x0, x1, x2, x8, x10 => if x10 < 6 then (if x8 = true then (bits_Rotate.l0 k x0 x1 x2 true (wrap64 (x10 + 1))) else (if 0 ≤ x10 then (bits_Rotate.l0 k x0 x1 x2 (x2 == (shl .i64 2 x10)) (wrap64 (x10 + 1))) else (none))) else (if x8 = true then (if x1 < 0 then (bits_Rotate.j1 k x0 x1 x2 true) else (bits_Rotate.j1 k x0 x1 x2 (decide (x1 ≥ x2)))) else (bits_Rotate.j1 k x0 x1 x2 true))
def bits_Rotate.j1 : Nat → Int → Int → Int → Bool → Option (Int × Int)
 | 0, _, _, _, _ => none
 | k + 1, x0, x1, x2, x21 => if x21 = true then (some (0, 1)) else ((bits_ones.f x2).bind fun t102 => (if x0 > t102 then (some (0, 4)) else (if 0 ≤ x1 then (if 0 ≤ (wrap64 (x2 - x1)) then ((bits_Low.f (Go.bits .or .u64 (shr .u64 x0 x1) (shl .u64 x0 (wrap64 (x2 - x1)))) x2).bind fun t103 => (some (t103, 0))) else (none)) else (none))))
end
def bits_Rotate.f (k : Nat) (a0 : Int) (a1 : Int) (a2 : Int) : Option (Int × Int) := bits_Rotate.l0 k a0 a1 a2 false 0
def bits_Rotate.T11 : Bool × List (List Nat × List Nat) := (true, [([], []), ([], []), ([0, 1], [0, 1]), ([], []), ([], []), ([], []), ([4, 5], [4, 5]), ([3, 6], [3, 6]), ([2, 7], [2, 7]), ([], []), ([8, 9], [8, 9]), ([10, 10, 0, 1, 2, 3, 4, 5, 6, 7, 8, 9, 10], [10]), ([11, 0, 1, 2, 3, 4, 5, 6, 7, 8, 9, 10, 11], [])])
def bits_Rotate.B11 : List Nat := [0, 0, 3, 0, 0, 0, 48, 120, 255, 0, 1023, 2047, 4095]
theorem bits_Rotate.tab11 : rtab .any (opsOf Tryz.f249 11) = bits_Rotate.T11 := by kernel_rfl
theorem bits_Rotate.bits11 : waitsOk bits_Rotate.T11.2 bits_Rotate.B11 = true := by kernel_rfl
set_option maxHeartbeats 8000000 in
set_option maxRecDepth 100000 in
theorem bits_Rotate.calls (k : Nat) (a0 : Int) (a1 : Int) (a2 : Int) (r1 : Int) (r2 : Int) (w : World) (h : bits_Rotate.f k a0 a1 a2 = some (r1, r2)) :
    Calls Tryz.prog 249 #[.int .u64 a0, .int .i64 a1, .int .i64 a2] w fun e w' => e = .returned (.tuple #[.int .u64 r1, .int .i64 r2]) ∧ Below w.heap.size w w' := by
 have HB := aq (Below.refl w.heap.size w)
 have H : (bits_Rotate.l0 k a0 a1 a2 false 0) = some (r1, r2) := h
 clear h
 have H' := aq H
 clear H
 go_enter Tryz.func249, Tryz.ntmps249
 go_wp2
 go_loopg [8, 10] k (fun kq v8 v10 w' => ∃ (x8_1 : Bool) (x10_1 : Int), v8 = .bool x8_1 ∧ v10 = .int .i64 x10_1 ∧ Aside0 (bits_Rotate.l0 kq a0 a1 a2 x8_1 x10_1 = some (r1, r2)) ∧ Aside0 (kq ≤ k) ∧ Aside0 (Below w.heap.size w w'))
 case atStart => exact ⟨(false), (0), (by first | rfl | (simp; done) | (simp [*]; done)), (by first | rfl | (simp; done) | (simp [*]; done)), H', ⟨Nat.le_refl _⟩, ⟨by repeat (first | (with_reducible first | exact HB.out | apply below_alloc | apply pw_below_drewN | apply below_drew1) | exact HB.out)⟩⟩
 case round =>
  clear H'
  try clear c2
  try clear p2
  obtain ⟨x8_1, x10_1, rfl, rfl, HA, HK1, HB⟩ := hrel
  cases gk with
  | zero => exact absurd HA.out (by simp [bits_Rotate.l0])
  | succ k1 =>
   have H := HA.out
   clear HA
   simp only [bits_Rotate.l0] at H
   by_cases c4 : x10_1 < 6
   ·
    rw [if_pos c4] at H
    have c4b0 : decide (x10_1 < 6) = true := decide_eq_true c4
    clear c4
    by_cases c5 : x8_1 = true
    ·
     subst c5
     have H1 : (bits_Rotate.l0 k1 a0 a1 a2 true (wrap64 (x10_1 + 1))) = some (r1, r2) := by rw [if_pos rfl] at H; exact H
     clear H
     have H := H1
     clear H1
     have H' := aq H
     clear H
     go_wp2
     go_roundg k1
     case measure => have := HK1.out; omega
     case rel => exact ⟨(true), (wrap64 (x10_1 + 1)), (by first | rfl | (simp; done) | (simp [*]; done)), (by first | rfl | (simp; done) | (simp [*]; done)), H', ⟨by have := HK1.out; omega⟩, ⟨by repeat (first | (with_reducible first | exact HB.out | apply below_alloc | apply pw_below_drewN | apply below_drew1) | exact HB.out)⟩⟩
    ·
     replace c5 := Bool.eq_false_iff.mpr c5
     subst c5
     have H1 : (if 0 ≤ x10_1 then (bits_Rotate.l0 k1 a0 a1 a2 (a2 == (shl .i64 2 x10_1)) (wrap64 (x10_1 + 1))) else (none)) = some (r1, r2) := by rw [if_neg (show ¬ (false = true) by decide)] at H; exact H
     clear H
     have H := H1
     clear H1
     by_cases c6 : 0 ≤ x10_1
     ·
      rw [if_pos c6] at H
      have c6b0 := eq_true c6
      have c6b1 : decide (0 ≤ x10_1) = true := decide_eq_true c6
      clear c6
      obtain ⟨ji7, hji7⟩ : ∃ j_ : Int, (shl .i64 2 x10_1) = j_ := ⟨_, rfl⟩
      replace H : (bits_Rotate.l0 k1 a0 a1 a2 (a2 == (ji7)) (wrap64 (x10_1 + 1))) = some (r1, r2) := by first | (rw [hji7] at H; exact H) | (simp only [hji7] at H ⊢; exact H)
      have hji7_ : (IntKind.i64.wrap (2 * 2 ^ min x10_1.toNat 64)) = ji7 := hji7
      have hji7z : x10_1 ≤ 64 → (IntKind.i64.wrap (2 * 2 ^ x10_1.toNat)) = ji7 := shl_small hji7
      have hji7y : (wrap64 (2 * 2 ^ min x10_1.toNat 64)) = ji7 := (i64_w _).symm.trans hji7_
      have hji7x : x10_1 ≤ 64 → (wrap64 (2 * 2 ^ x10_1.toNat)) = ji7 := fun h_ => (i64_w _).symm.trans (hji7z h_)
      have H' := aq H
      clear H
      go_wp2
      go_roundg k1
      case measure => have := HK1.out; omega
      case rel => exact ⟨((a2 == (ji7))), (wrap64 (x10_1 + 1)), (by first | rfl | (simp; done) | (simp only [← hji7] <;> (first | rfl | simp)) | (simp [*]; done)), (by first | rfl | (simp; done) | (simp [*]; done)), H', ⟨by have := HK1.out; omega⟩, ⟨by repeat (first | (with_reducible first | exact HB.out | apply below_alloc | apply pw_below_drewN | apply below_drew1) | exact HB.out)⟩⟩
     ·
      rw [if_neg c6] at H
      exact absurd H (by simp)
   ·
    rw [if_neg c4] at H
    have c4b0 : decide (x10_1 < 6) = false := decide_eq_false c4
    clear c4
    have HC8 := aq H
    clear H
    go_upto_region 7 with (fail)
    go_cut [21] (fun v21 wc => ∃ (kq : Nat) (x21_7 : Bool), v21 = .bool x21_7 ∧ Aside0 (bits_Rotate.j1 kq a0 a1 a2 x21_7 = some (r1, r2)) ∧ Aside0 (kq ≤ k1) ∧ Aside0 (Below w.heap.size w wc))
    case first =>
     have H := HC8.out
     clear HC8
     (try (rw [drewN_self w]; have n0_ := fun n_ => pw_below_drewN HB.out n_; clear HB; generalize hq_ : World.drewN w _ = w; have HB := aq (hq_ ▸ n0_ _); clear hq_ n0_))
     by_cases c9 : x8_1 = true
     ·
      subst c9
      have H1 : (if a1 < 0 then (bits_Rotate.j1 k1 a0 a1 a2 true) else (bits_Rotate.j1 k1 a0 a1 a2 (decide (a1 ≥ a2)))) = some (r1, r2) := by rw [if_pos rfl] at H; exact H
      clear H
      have H := H1
      clear H1
      by_cases c10 : a1 < 0
      ·
       rw [if_pos c10] at H
       have c10b0 : decide (a1 < 0) = true := decide_eq_true c10
       clear c10
       (first | rw [c10b0] | (simp only [i64_w, i32_w]; rw [c10b0]) | skip)
       have H' := aq H
       clear H
       go_wp2
       go_meet
       case rel => exact ⟨_, (true), (by first | rfl | (simp; done) | (simp [*]; done)), H', ⟨by have := HK1.out; first | omega | exact Nat.le_refl _⟩, ⟨by repeat (first | (with_reducible first | exact HB.out | apply below_alloc | apply pw_below_drewN | apply below_drew1) | exact HB.out)⟩⟩
      ·
       rw [if_neg c10] at H
       have c10b0 : decide (a1 < 0) = false := decide_eq_false c10
       clear c10
       (first | rw [c10b0] | (simp only [i64_w, i32_w]; rw [c10b0]) | skip)
       have H' := aq H
       clear H
       go_wp2
       go_meet
       case rel => exact ⟨_, (decide (a1 ≥ a2)), (by first | rfl | (simp; done) | (simp [*]; done)), H', ⟨by have := HK1.out; first | omega | exact Nat.le_refl _⟩, ⟨by repeat (first | (with_reducible first | exact HB.out | apply below_alloc | apply pw_below_drewN | apply below_drew1) | exact HB.out)⟩⟩
     ·
      replace c9 := Bool.eq_false_iff.mpr c9
      subst c9
      have H1 : (bits_Rotate.j1 k1 a0 a1 a2 true) = some (r1, r2) := by rw [if_neg (show ¬ (false = true) by decide)] at H; exact H
      clear H
      have H := H1
      clear H1
      have H' := aq H
      clear H
      go_wp2
      go_meet
      case rel => exact ⟨_, (true), (by first | rfl | (simp; done) | (simp [*]; done)), H', ⟨by have := HK1.out; first | omega | exact Nat.le_refl _⟩, ⟨by repeat (first | (with_reducible first | exact HB.out | apply below_alloc | apply pw_below_drewN | apply below_drew1) | exact HB.out)⟩⟩
    case rest =>
     clear HC8
     try clear c1
     try clear c2
     try clear p2
     try clear c4
     try clear c4b0
     try clear c5
     try clear c6
     try clear c6b0
     try clear c6b1
     try clear p6
     try clear c9
     try clear c10
     try clear c10b0
     try clear p2
     obtain ⟨kq, x21_7, rfl, HA, HJ7, HB⟩ := hcut
     cases kq with
     | zero => exact absurd HA.out (by simp [bits_Rotate.j1])
     | succ kj7 =>
      have H := HA.out
      clear HA
      simp only [bits_Rotate.j1] at H
      by_cases c11 : x21_7 = true
      ·
       subst c11
       have H1 : (some (0, 1)) = some (r1, r2) := by rw [if_pos rfl] at H; exact H
       clear H
       have H := H1
       clear H1
       simp only [Option.some.injEq, Prod.mk.injEq] at H
       obtain ⟨rfl, rfl⟩ := H
       go_wp2
       go_ret2
       exact ⟨by first | rfl | (simp [errW_none, errW_some] <;> rfl) | (simp [*, errW_none, errW_some] <;> rfl), by repeat (first | (with_reducible first | exact HB.out | apply below_alloc | apply pw_below_drewN | apply below_drew1) | exact HB.out)⟩
      ·
       replace c11 := Bool.eq_false_iff.mpr c11
       subst c11
       have H1 : ((bits_ones.f a2).bind fun t102 => (if a0 > t102 then (some (0, 4)) else (if 0 ≤ a1 then (if 0 ≤ (wrap64 (a2 - a1)) then ((bits_Low.f (Go.bits .or .u64 (shr .u64 a0 a1) (shl .u64 a0 (wrap64 (a2 - a1)))) a2).bind fun t103 => (some (t103, 0))) else (none)) else (none)))) = some (r1, r2) := by rw [if_neg (show ¬ (false = true) by decide)] at H; exact H
       clear H
       have H := H1
       clear H1
       replace H := Option.bind_eq_some_iff.mp H
       obtain ⟨t102, A120, H⟩ := H
       replace H : (if a0 > t102 then (some (0, 4)) else (if 0 ≤ a1 then (if 0 ≤ (wrap64 (a2 - a1)) then ((bits_Low.f (Go.bits .or .u64 (shr .u64 a0 a1) (shl .u64 a0 (wrap64 (a2 - a1)))) a2).bind fun t103 => (some (t103, 0))) else (none)) else (none))) = some (r1, r2) := H
       have A12 := aq A120
       clear A120
       by_cases c13 : a0 > t102
       ·
        rw [if_pos c13] at H
        have c13b0 : decide (t102 < a0) = true := decide_eq_true c13
        clear c13
        simp only [Option.some.injEq, Prod.mk.injEq] at H
        obtain ⟨rfl, rfl⟩ := H
        go_wp2_with (first | ((with_reducible refine gate_callee (f := 157) rfl ?_); refine goesL_ (some 36) rfl rfl Tryz.func157 (by kernel_rfl) rfl #[.int .i64 a2] rfl (by (try simp only [List.map_toArray, List.map_cons, List.map_nil]); first | done | rfl | (simp only [List.length_drop, List.length_take]; rfl)) ?_; (with_reducible refine (bits_ones.calls a2 t102 _ A12.out).mono ?_); rintro e w' ⟨rfl, ⟨nd, rfl⟩⟩; refine ⟨_, rfl, ?_⟩))
        go_ret2
        exact ⟨by first | rfl | (simp [errW_none, errW_some] <;> rfl) | (simp [*, errW_none, errW_some] <;> rfl), by repeat (first | (with_reducible first | exact HB.out | apply below_alloc | apply pw_below_drewN | apply below_drew1) | exact HB.out)⟩
       ·
        rw [if_neg c13] at H
        have c13b0 : decide (t102 < a0) = false := decide_eq_false c13
        clear c13
        by_cases c14 : 0 ≤ a1
        ·
         rw [if_pos c14] at H
         have c14b0 := eq_true c14
         have c14b1 : decide (0 ≤ a1) = true := decide_eq_true c14
         clear c14
         obtain ⟨ji15, hji15⟩ : ∃ j_ : Int, (shr .u64 a0 a1) = j_ := ⟨_, rfl⟩
         replace H : (if 0 ≤ (wrap64 (a2 - a1)) then ((bits_Low.f (Go.bits .or .u64 (ji15) (shl .u64 a0 (wrap64 (a2 - a1)))) a2).bind fun t103 => (some (t103, 0))) else (none)) = some (r1, r2) := by first | (rw [hji15] at H; exact H) | (simp only [hji15] at H ⊢; exact H)
         (try rw [hji15] at A12)
         have hji15_ : (a0 / 2 ^ min a1.toNat 64) = ji15 := hji15
         have hji15z : a1 ≤ 64 → (a0 / 2 ^ a1.toNat) = ji15 := shr_small hji15
         obtain ⟨ji16, hji16⟩ : ∃ j_ : Int, (wrap64 (a2 - a1)) = j_ := ⟨_, rfl⟩
         replace H : (if 0 ≤ (ji16) then ((bits_Low.f (Go.bits .or .u64 (ji15) (shl .u64 a0 (ji16))) a2).bind fun t103 => (some (t103, 0))) else (none)) = some (r1, r2) := by first | (rw [hji16] at H; exact H) | (simp only [hji16] at H ⊢; exact H)
         (try rw [hji16] at A12)
         have hji16w : (IntKind.i64.wrap (a2 - a1)) = ji16 := (i64_w _).trans hji16
         by_cases c17 : 0 ≤ (ji16)
         ·
          rw [if_pos c17] at H
          have c17b0 := eq_true c17
          have c17b1 : decide (0 ≤ (ji16)) = true := decide_eq_true c17
          clear c17
          obtain ⟨ji18, hji18⟩ : ∃ j_ : Int, (shl .u64 a0 (ji16)) = j_ := ⟨_, rfl⟩
          replace H : ((bits_Low.f (Go.bits .or .u64 (ji15) (ji18)) a2).bind fun t103 => (some (t103, 0))) = some (r1, r2) := by first | (rw [hji18] at H; exact H) | (simp only [hji18] at H ⊢; exact H)
          (try rw [hji18] at A12)
          have hji18_ : (IntKind.u64.wrap (a0 * 2 ^ min (ji16).toNat 64)) = ji18 := hji18
          have hji18z : (ji16) ≤ 64 → (IntKind.u64.wrap (a0 * 2 ^ (ji16).toNat)) = ji18 := shl_small hji18
          replace H := Option.bind_eq_some_iff.mp H
          obtain ⟨t103, A190, H⟩ := H
          replace H : (some (t103, 0)) = some (r1, r2) := H
          have A19 := aq A190
          clear A190
          simp only [Option.some.injEq, Prod.mk.injEq] at H
          obtain ⟨rfl, rfl⟩ := H
          try go_wp2_with (first | ((with_reducible refine gate_callee (f := 157) rfl ?_); refine goesL_ (some 36) rfl rfl Tryz.func157 (by kernel_rfl) rfl #[.int .i64 a2] rfl (by (try simp only [List.map_toArray, List.map_cons, List.map_nil]); first | done | rfl | (simp only [List.length_drop, List.length_take]; rfl)) ?_; (with_reducible refine (bits_ones.calls a2 t102 _ A12.out).mono ?_); rintro e w' ⟨rfl, ⟨nd, rfl⟩⟩; refine ⟨_, rfl, ?_⟩))
          (try (rw [drewN_self wc]; generalize hq_ : World.drewN wc _ = wc; have n0_ : Aside0 (Below w.heap.size w wc) := ⟨by rw [← hq_]; exact (by repeat (first | (with_reducible first | exact HB.out | apply below_alloc | apply pw_below_drewN | apply below_drew1) | exact HB.out))⟩; clear HB hq_; have HB := n0_; clear n0_))
          have n0_ := aq (below_drew1 HB.out)
          clear HB
          have HB := n0_
          clear n0_
          refine start_ (n := 13) (S := fun w' => True) (ds := []) #[false, false, false, false, false, false, false, false, false, false, false, false, false] (by kernel_rfl) rfl rfl trivial (fun hHeld => ?_); refine with_tabW bits_Rotate.tab11 bits_Rotate.bits11 (fun HT_ HW_ => ?_)
          generalize wc.drew = w20 at HB hHeld ⊢
          refine pure_ (i := 0) (N := some 38) (v := ?_) (a' := ?_) #[true, false, false, false, false, false, false, false, false, false, false, false, false] rfl rfl (any_of HT_.out (by kernel_rfl)) (fun _ _ _ h => h) (Or.inl ⟨by rfl, ?_⟩) ?_ ?_
          rotate_left
          · intro w'; go_simp; with_reducible rfl
          rotate_left
          · simp only [qa_, qb_, qc_, qd_, i64_w, i32_w]; rfl
          refine pure_ (i := 1) (N := some 39) (v := ?_) (a' := ?_) #[true, true, false, false, false, false, false, false, false, false, false, false, false] rfl rfl (any_of HT_.out (by kernel_rfl)) (fun _ _ _ h => h) (Or.inl ⟨by rfl, ?_⟩) ?_ ?_
          rotate_left
          · intro w'; go_simp; with_reducible rfl
          rotate_left
          · simp only [qa_, qb_, qc_, qd_, i64_w, i32_w]; rfl
          refine pure_ (i := 2) (N := some 40) (v := ?_) (a' := ?_) #[true, true, true, false, false, false, false, false, false, false, false, false, false] rfl rfl (any_of HT_.out (by kernel_rfl)) (fun _ _ _ h => h) (Or.inl ⟨by rfl, ?_⟩) ?_ ?_
          rotate_left
          · intro w'; go_simp; with_reducible rfl
          rotate_left
          · simp only [qa_, qb_, qc_, qd_, i64_w, i32_w]; rfl
          refine pure_ (i := 3) (N := some 41) (v := ?_) (a' := ?_) #[true, true, true, true, false, false, false, false, false, false, false, false, false] rfl rfl (any_of HT_.out (by kernel_rfl)) (fun _ _ _ h => h) (Or.inl ⟨by rfl, ?_⟩) ?_ ?_
          rotate_left
          · intro w'; go_simp; with_reducible rfl
          rotate_left
          · simp only [qa_, qb_, qc_, qd_, i64_w, i32_w]; rfl
          refine pure_ (i := 4) (N := some 42) (v := ?_) (a' := ?_) #[true, true, true, true, true, false, false, false, false, false, false, false, false] rfl rfl (any_of HT_.out (by kernel_rfl)) (fun _ _ _ h => h) (Or.inl ⟨by rfl, ?_⟩) ?_ ?_
          rotate_left
          · intro w'; go_simp; with_reducible rfl
          rotate_left
          · simp only [qa_, qb_, qc_, qd_, i64_w, i32_w]; rfl
          refine pure_ (i := 5) (N := some 43) (v := ?_) (a' := ?_) #[true, true, true, true, true, true, false, false, false, false, false, false, false] rfl rfl (any_of HT_.out (by kernel_rfl)) (fun _ _ _ h => h) (Or.inl ⟨by rfl, ?_⟩) ?_ ?_
          rotate_left
          · intro w'; go_simp; with_reducible rfl
          rotate_left
          · simp only [qa_, qb_, qc_, qd_, i64_w, i32_w]; rfl
          refine pure_ (i := 6) (N := some 44) (v := ?_) (a' := ?_) #[true, true, true, true, true, true, true, false, false, false, false, false, false] rfl rfl (any_of HT_.out (by kernel_rfl)) (fun _ _ _ h => h) (Or.inl ⟨by rfl, ?_⟩) ?_ ?_
          rotate_left
          · intro w'; go_simp; with_reducible rfl
          rotate_left
          · simp only [qa_, qb_, qc_, qd_, i64_w, i32_w]; rfl
          refine pure_ (i := 7) (N := some 45) (v := ?_) (a' := ?_) #[true, true, true, true, true, true, true, true, false, false, false, false, false] rfl rfl (any_of HT_.out (by kernel_rfl)) (fun _ _ _ h => h) (Or.inl ⟨by rfl, ?_⟩) ?_ ?_
          rotate_left
          · intro w'; go_simp; with_reducible rfl
          rotate_left
          · simp only [qa_, qb_, qc_, qd_, i64_w, i32_w]; rfl
          refine pure_ (i := 8) (N := some 46) (v := ?_) (a' := ?_) #[true, true, true, true, true, true, true, true, true, false, false, false, false] rfl rfl (any_of HT_.out (by kernel_rfl)) (fun _ _ _ h => h) (Or.inl ⟨by rfl, ?_⟩) ?_ ?_
          rotate_left
          · intro w'; go_simp; with_reducible rfl
          rotate_left
          · simp only [qa_, qb_, qc_, qd_, i64_w, i32_w]; rfl
          refine pure_ (i := 9) (N := some 47) (v := ?_) (a' := ?_) #[true, true, true, true, true, true, true, true, true, true, false, false, false] rfl rfl (any_of HT_.out (by kernel_rfl)) (fun _ _ _ h => h) (Or.inl ⟨by rfl, ?_⟩) ?_ ?_
          rotate_left
          · intro w'; go_simp; with_reducible rfl
          rotate_left
          · simp only [qa_, qb_, qc_, qd_, i64_w, i32_w]; rfl
          refine one_ (i := 10) (N := some 48) #[true, true, true, true, true, true, true, true, true, true, true, false, false] rfl rfl (one_of HT_.out (by kernel_rfl)) (by decide) (fun K hK => ?_)
          refine goes_ Tryz.func111 (by kernel_rfl) rfl #[.int .u64 (Go.bits .or .u64 (ji15) (ji18)), .int .i64 a2] (by rfl) rfl rfl (by (try simp only [List.map_toArray, List.map_cons, List.map_nil]); first | done | (simp only [hji15, hji18]; rfl) | rfl | (simp only [List.length_drop, List.length_take]; rfl)) ?_
          with_reducible refine (bits_Low.calls (Go.bits .or .u64 (ji15) (ji18)) a2 t103 _ A19.out).mono ?_
          rintro e w21 ⟨rfl, hb⟩
          refine ⟨_, rfl, ?_⟩
          have n0_ := aq (below_step (by repeat (first | (with_reducible first | exact HB.out | apply below_alloc | apply pw_below_drewN | apply below_drew1) | exact HB.out)) hb)
          clear HB
          have HB := n0_
          clear n0_
          (try clear hb)
          (try clear hb2)
          (try clear hk)
          (try clear hi)
          refine hK.out _ _ trivial (fun hHeld => ?_)
          clear hK K
          refine norm_ (a' := ?_) ?_ ?_
          rotate_left
          ·
           show Act.put _ (some 48) _ = _
           simp only [qa_, qb_, qc_, qd_, i64_w, i32_w]
           rfl
          refine pure_ (i := 11) (N := some 6) (v := ?_) (a' := ?_) #[true, true, true, true, true, true, true, true, true, true, true, true, false] rfl rfl (any_of HT_.out (by kernel_rfl)) (fun _ _ _ h => h) (Or.inl ⟨by rfl, ?_⟩) ?_ ?_
          rotate_left
          · intro w'; go_simp; with_reducible rfl
          rotate_left
          · simp only [qa_, qb_, qc_, qd_, i64_w, i32_w]; rfl
          refine pure_ (i := 12) (N := some 7) (v := ?_) (a' := ?_) #[true, true, true, true, true, true, true, true, true, true, true, true, true] rfl rfl (any_of HT_.out (by kernel_rfl)) (fun _ _ _ h => h) (Or.inl ⟨by rfl, ?_⟩) ?_ ?_
          rotate_left
          · intro w'; go_simp; with_reducible rfl
          rotate_left
          · simp only [qa_, qb_, qc_, qd_, i64_w, i32_w]; rfl
          refine done_ (done_of HT_.out (by kernel_rfl)) ?_
          try go_wp2
          go_ret2
          exact ⟨by first | rfl | (simp [errW_none, errW_some] <;> rfl) | (simp only [← hji15, ← hji16, ← hji18]; first | rfl | (simp [errW_none, errW_some] <;> rfl)) | (simp [*, errW_none, errW_some] <;> rfl), by repeat (first | (with_reducible first | exact HB.out | apply below_alloc | apply pw_below_drewN | apply below_drew1) | exact HB.out)⟩
         ·
          rw [if_neg c17] at H
          exact absurd H (by simp)
        ·
         rw [if_neg c14] at H
         exact absurd H (by simp)
def mask_front.f (a0 : Int) : Option (Int) := if a0 = 64 then (some 0) else (some (wrap64 (64 - (wrap64 (2 * a0)))))
set_option maxHeartbeats 8000000 in
set_option maxRecDepth 100000 in
theorem mask_front.calls (a0 : Int) (r : Int) (w : World) (h : mask_front.f a0 = some r) :
    Calls Tryz.prog 250 #[.int .i64 a0] w fun e w' => e = .returned (.int .i64 r) ∧ Drawn0 w w' := by
 have H : (if a0 = 64 then (some 0) else (some (wrap64 (64 - (wrap64 (2 * a0)))))) = some r := h
 clear h
 by_cases c2 : a0 = 64
 ·
  rw [if_pos c2] at H
  have c2b0 : (a0 == 64) = true := beq_iff_eq.mpr c2
  have c2b1 : (a0 != 64) = false := bne_eq_false_iff_eq.mpr c2
  clear c2
  obtain rfl := Option.some.inj H
  go_enter Tryz.func250, Tryz.ntmps250
  go_wp2
  go_ret
  exact ⟨by first | rfl | (simp; done) | (simp [*]; done), by repeat (first | exact Drawn0.refl _ | apply Drawn0.step)⟩
 ·
  rw [if_neg c2] at H
  have c2b0 : (a0 == 64) = false := beq_eq_false_iff_ne.mpr c2
  have c2b1 : (a0 != 64) = true := bne_iff_ne.mpr c2
  obtain rfl := Option.some.inj H
  go_enter Tryz.func250, Tryz.ntmps250
  go_wp2
  go_ret
  exact ⟨by first | rfl | (simp; done) | (simp [*]; done), by repeat (first | exact Drawn0.refl _ | apply Drawn0.step)⟩
def mask_askD.f (s size : Int) : Option Bool := if size < 64 then (mask_front.f size).bind fun f => some (decide (s ≥ f)) else some false
set_option maxHeartbeats 8000000 in
theorem mask_askD.calls (s size : Int) (r : Bool) (B : Nat) (w : World) (hc : w.cell? ⟨B, 0, none⟩ = some (.int .i64 s)) (h : mask_askD.f s size = some r) :
    Calls Tryz.prog 254 #[.int .i64 size, .pointer (some ⟨B, 0, none⟩)] w fun e w' => e = .returned (.bool r) ∧ Below w.heap.size w w' := by
  unfold mask_askD.f at h
  by_cases h64 : size < 64
  · rw [if_pos h64] at h
    obtain ⟨a, h1, h⟩ := Option.bind_eq_some_iff.mp h
    obtain rfl := Option.some.inj h
    have H1 := aq h1
    clear h h1
    have d : decide (size < 64) = true := decide_eq_true h64
    go_enter Tryz.func254, Tryz.ntmps254
    go_wp2
    go_quiet ((go_at_call 250; refine quiet_drawn (mask_front.calls _ _ _ H1.out)))
    all_goals go_wp2
    all_goals go_ret
    exact ⟨rfl, by repeat (first | exact Below.refl _ _ | apply below_drew | apply pw_below_drewN | apply below_alloc)⟩
  · rw [if_neg h64] at h
    obtain rfl := Option.some.inj h
    clear h
    have d : decide (size < 64) = false := decide_eq_false h64
    go_enter Tryz.func254, Tryz.ntmps254
    go_wp2
    go_quiet (fail)
    all_goals go_wp2
    all_goals go_ret
    exact ⟨rfl, by repeat (first | exact Below.refl _ _ | apply below_drew | apply pw_below_drewN | apply below_alloc)⟩
set_option maxHeartbeats 8000000 in
theorem mask_Decode.sizes (v : Int) (r : Int) (B : Nat) (w : World) (hc0 : w.cell? ⟨B, 0, none⟩ = some (.int .i64 v)) (h : mask_sizes.f (mask_askD.f v) = some r) :
    Calls Tryz.prog 253 #[.func (.func 254) #[] #[.pointer (some ⟨B, 0, none⟩)]] w fun e w' => e = .returned (.int .i64 r) ∧ Below w.heap.size w w' := by
  have hb0 := Below.refl w.heap.size w
  unfold mask_sizes.f at h
  go_enter Tryz.func253, Tryz.ntmps253
  go_wp2
  refine wp_loop_rounds 8 ?_
  obtain ⟨b0, h0, h⟩ := Option.bind_eq_some_iff.mp h
  have H0 := aq h0
  clear h0
  rw [rounds_succ]
  cases b0
  rotate_left
  · rw [if_pos rfl] at h
    obtain rfl := Option.some.inj h
    clear h
    go_wp2_with (first | (go_at_call 254; refine (mask_askD.calls v _ _ B _ hc0 H0.out).mono ?_; rintro e w1 ⟨rfl, hn1⟩; have hb1 := below_then hb0 hb0.size hn1; have hc1 := pw_cell_below hn1 hc0))
    go_ret
    exact ⟨rfl, hb1⟩
  rw [if_neg (by decide)] at h
  have H := aq h
  clear h
  go_wp2_with (first | (go_at_call 254; refine (mask_askD.calls v _ _ B _ hc0 H0.out).mono ?_; rintro e w1 ⟨rfl, hn1⟩; have hb1 := below_then hb0 hb0.size hn1; have hc1 := pw_cell_below hn1 hc0))
  replace h := H.out
  clear H
  obtain ⟨b1, h1, h⟩ := Option.bind_eq_some_iff.mp h
  have H1 := aq h1
  clear h1
  rw [rounds_succ]
  cases b1
  rotate_left
  · rw [if_pos rfl] at h
    obtain rfl := Option.some.inj h
    clear h
    go_wp2_with (first | (go_at_call 254; refine (mask_askD.calls v _ _ B _ hc1 H1.out).mono ?_; rintro e w2 ⟨rfl, hn2⟩; have hb2 := below_then hb1 hb1.size hn2; have hc2 := pw_cell_below hn2 hc1))
    go_ret
    exact ⟨rfl, hb2⟩
  rw [if_neg (by decide)] at h
  have H := aq h
  clear h
  go_wp2_with (first | (go_at_call 254; refine (mask_askD.calls v _ _ B _ hc1 H1.out).mono ?_; rintro e w2 ⟨rfl, hn2⟩; have hb2 := below_then hb1 hb1.size hn2; have hc2 := pw_cell_below hn2 hc1))
  replace h := H.out
  clear H
  obtain ⟨b2, h2, h⟩ := Option.bind_eq_some_iff.mp h
  have H2 := aq h2
  clear h2
  rw [rounds_succ]
  cases b2
  rotate_left
  · rw [if_pos rfl] at h
    obtain rfl := Option.some.inj h
    clear h
    go_wp2_with (first | (go_at_call 254; refine (mask_askD.calls v _ _ B _ hc2 H2.out).mono ?_; rintro e w3 ⟨rfl, hn3⟩; have hb3 := below_then hb2 hb2.size hn3; have hc3 := pw_cell_below hn3 hc2))
    go_ret
    exact ⟨rfl, hb3⟩
  rw [if_neg (by decide)] at h
  have H := aq h
  clear h
  go_wp2_with (first | (go_at_call 254; refine (mask_askD.calls v _ _ B _ hc2 H2.out).mono ?_; rintro e w3 ⟨rfl, hn3⟩; have hb3 := below_then hb2 hb2.size hn3; have hc3 := pw_cell_below hn3 hc2))
  replace h := H.out
  clear H
  obtain ⟨b3, h3, h⟩ := Option.bind_eq_some_iff.mp h
  have H3 := aq h3
  clear h3
  rw [rounds_succ]
  cases b3
  rotate_left
  · rw [if_pos rfl] at h
    obtain rfl := Option.some.inj h
    clear h
    go_wp2_with (first | (go_at_call 254; refine (mask_askD.calls v _ _ B _ hc3 H3.out).mono ?_; rintro e w4 ⟨rfl, hn4⟩; have hb4 := below_then hb3 hb3.size hn4; have hc4 := pw_cell_below hn4 hc3))
    go_ret
    exact ⟨rfl, hb4⟩
  rw [if_neg (by decide)] at h
  have H := aq h
  clear h
  go_wp2_with (first | (go_at_call 254; refine (mask_askD.calls v _ _ B _ hc3 H3.out).mono ?_; rintro e w4 ⟨rfl, hn4⟩; have hb4 := below_then hb3 hb3.size hn4; have hc4 := pw_cell_below hn4 hc3))
  replace h := H.out
  clear H
  obtain ⟨b4, h4, h⟩ := Option.bind_eq_some_iff.mp h
  have H4 := aq h4
  clear h4
  rw [rounds_succ]
  cases b4
  rotate_left
  · rw [if_pos rfl] at h
    obtain rfl := Option.some.inj h
    clear h
    go_wp2_with (first | (go_at_call 254; refine (mask_askD.calls v _ _ B _ hc4 H4.out).mono ?_; rintro e w5 ⟨rfl, hn5⟩; have hb5 := below_then hb4 hb4.size hn5; have hc5 := pw_cell_below hn5 hc4))
    go_ret
    exact ⟨rfl, hb5⟩
  rw [if_neg (by decide)] at h
  have H := aq h
  clear h
  go_wp2_with (first | (go_at_call 254; refine (mask_askD.calls v _ _ B _ hc4 H4.out).mono ?_; rintro e w5 ⟨rfl, hn5⟩; have hb5 := below_then hb4 hb4.size hn5; have hc5 := pw_cell_below hn5 hc4))
  replace h := H.out
  clear H
  obtain ⟨b5, h5, h⟩ := Option.bind_eq_some_iff.mp h
  have H5 := aq h5
  clear h5
  rw [rounds_succ]
  cases b5
  rotate_left
  · rw [if_pos rfl] at h
    obtain rfl := Option.some.inj h
    clear h
    go_wp2_with (first | (go_at_call 254; refine (mask_askD.calls v _ _ B _ hc5 H5.out).mono ?_; rintro e w6 ⟨rfl, hn6⟩; have hb6 := below_then hb5 hb5.size hn6; have hc6 := pw_cell_below hn6 hc5))
    go_ret
    exact ⟨rfl, hb6⟩
  rw [if_neg (by decide)] at h
  have H := aq h
  clear h
  go_wp2_with (first | (go_at_call 254; refine (mask_askD.calls v _ _ B _ hc5 H5.out).mono ?_; rintro e w6 ⟨rfl, hn6⟩; have hb6 := below_then hb5 hb5.size hn6; have hc6 := pw_cell_below hn6 hc5))
  replace h := H.out
  clear H
  obtain rfl := Option.some.inj h
  rw [rounds_succ]
  go_wp2
  go_ret
  exact ⟨rfl, hb6⟩
def mask_Decode.size (a0 a2 : Int) : Option Int := if a0 = 0 then mask_sizes.f (mask_askD.f a2) else some 64
def mask_Decode.f (k : Nat) (a0 a1 a2 : Int) : Option (Int × Int) :=
  if 0 ≤ mn (mn a0 a1) a2 ∧ a0 ≤ 1 ∧ mx a1 a2 < 64 then (mask_Decode.size a0 a2).bind fun z => (mask_front.f z).bind fun fr =>
    if 1 ≤ wrap64 (wrap64 (a2 - fr) + 1) ∧ wrap64 (wrap64 (a2 - fr) + 1) < z ∧ a1 < z then
      (bits_Low.f 18446744073709551615 (wrap64 (wrap64 (a2 - fr) + 1))).bind fun u => (bits_Rotate.f k u a1 z).bind fun p => (mask_again.f k p.1 z).bind fun v => some (v, p.2)
    else some (0, 3)
  else some (0, 1)
set_option maxHeartbeats 8000000 in
theorem mask_Decode.calls (k : Nat) (a0 a1 a2 : Int) (r1 r2 : Int) (w : World) (h : mask_Decode.f k a0 a1 a2 = some (r1, r2)) :
    Calls Tryz.prog 206 #[.int .i64 a0, .int .i64 a1, .int .i64 a2] w fun e w' => e = .returned (.tuple #[.int .u64 r1, .int .i64 r2]) ∧ Below w.heap.size w w' := by
  unfold mask_Decode.f at h
  obtain ⟨m1, hm1⟩ : ∃ m1, mn a0 a1 = m1 := ⟨_, rfl⟩
  obtain ⟨m2, hm2⟩ : ∃ m2, mn m1 a2 = m2 := ⟨_, rfl⟩
  obtain ⟨m3, hm3⟩ : ∃ m3, mx a1 a2 = m3 := ⟨_, rfl⟩
  rw [hm1, hm2, hm3] at h
  have hm1_ : (if a1 < a0 then a1 else a0) = m1 := hm1
  have hm2_ : (if a2 < m1 then a2 else m1) = m2 := hm2
  have hm3_ : (if a1 < a2 then a2 else a1) = m3 := hm3
  clear hm1 hm2 hm3
  have hA := fun o => below_alloc (Below.refl w.heap.size w) o
  have hA1 := hA (.cells #[.int .i64 a2] 3)
  have hN : (w.alloc (.cells #[.int .i64 a2] 3)).cell? ⟨w.heap.size, 0, none⟩ = some (.int .i64 a2) := by simp
  by_cases hin : 0 ≤ m2 ∧ a0 ≤ 1 ∧ m3 < 64
  · rw [if_pos hin] at h
    obtain ⟨hi1, hi2, hi3⟩ := hin
    obtain ⟨z, hz, h⟩ := Option.bind_eq_some_iff.mp h
    obtain ⟨fr, hfr, h⟩ := Option.bind_eq_some_iff.mp h
    have HZ := aq hz
    have HF := aq hfr
    have H := aq h
    clear h hz hfr
    obtain ⟨o, ho⟩ : ∃ o, wrap64 (wrap64 (a2 - fr) + 1) = o := ⟨_, rfl⟩
    have H2 := H.out
    rw [ho] at H2
    clear H
    by_cases hz0 : a0 = 0
    · subst hz0
      by_cases hok : 1 ≤ o ∧ o < z ∧ a1 < z
      · rw [if_pos hok] at H2
        obtain ⟨ho1, ho2, ho3⟩ := hok
        obtain ⟨u, h1, H2⟩ := Option.bind_eq_some_iff.mp H2
        obtain ⟨p, h2, H2⟩ := Option.bind_eq_some_iff.mp H2
        obtain ⟨v, h3, H2⟩ := Option.bind_eq_some_iff.mp H2
        obtain ⟨p1, p2⟩ := p
        obtain ⟨rfl, rfl⟩ := Prod.mk.inj (Option.some.inj H2)
        have G1 := aq h1
        have G2 := aq h2
        have G3 := aq h3
        clear H2 h1 h2 h3
        go_enter Tryz.func206, Tryz.ntmps206
        go_wp2_with (first | (go_at_call 253; refine (mask_Decode.sizes a2 z w.heap.size _ hN HZ.out).mono ?_; rintro e w1 ⟨rfl, hb1⟩; have hc1 := pw_cell_below hb1 hN))
        all_goals go_quiet ((go_at_call 250; refine quiet_drawn (mask_front.calls _ _ _ HF.out)))
        go_wp2_with (first | (go_at_call 111; refine (bits_Low.calls _ _ _ _ G1.out).mono ?_; rintro e w2 ⟨rfl, hb2⟩) | (go_at_call 249; refine (bits_Rotate.calls _ _ _ _ _ _ _ G2.out).mono ?_; rintro e w3 ⟨rfl, hb3⟩) | (go_at_call 255; refine (mask_again.calls _ _ _ _ _ G3.out).mono ?_; rintro e w4 ⟨rfl, ⟨n4, rfl⟩⟩))
        go_ret2
        have B1 := fun n => pw_below_drewN (below_then hA1 hA1.size hb1) n
        have B2 := below_then (B1 _) (B1 _).size hb2
        exact ⟨rfl, pw_below_drewN (below_then B2 B2.size hb3) _⟩
      · rw [if_neg hok] at H2
        obtain ⟨rfl, rfl⟩ := Prod.mk.inj (Option.some.inj H2)
        clear H2
        rcases Int.lt_or_le o 1 with c1 | c1
        · go_enter Tryz.func206, Tryz.ntmps206
          go_wp2_with (first | (go_at_call 253; refine (mask_Decode.sizes a2 z w.heap.size _ hN HZ.out).mono ?_; rintro e w1 ⟨rfl, hb1⟩; have hc1 := pw_cell_below hb1 hN))
          all_goals go_quiet ((go_at_call 250; refine quiet_drawn (mask_front.calls _ _ _ HF.out)))
          all_goals go_wp2
          all_goals go_ret2
          all_goals exact ⟨rfl, pw_below_drewN (below_then hA1 hA1.size hb1) _⟩
        · rcases Int.lt_or_le o z with c2 | c2
          · have c3 : z ≤ a1 := by omega
            go_enter Tryz.func206, Tryz.ntmps206
            go_wp2_with (first | (go_at_call 253; refine (mask_Decode.sizes a2 z w.heap.size _ hN HZ.out).mono ?_; rintro e w1 ⟨rfl, hb1⟩; have hc1 := pw_cell_below hb1 hN))
            all_goals go_quiet ((go_at_call 250; refine quiet_drawn (mask_front.calls _ _ _ HF.out)))
            all_goals go_wp2
            all_goals go_ret2
            all_goals exact ⟨rfl, pw_below_drewN (below_then hA1 hA1.size hb1) _⟩
          · go_enter Tryz.func206, Tryz.ntmps206
            go_wp2_with (first | (go_at_call 253; refine (mask_Decode.sizes a2 z w.heap.size _ hN HZ.out).mono ?_; rintro e w1 ⟨rfl, hb1⟩; have hc1 := pw_cell_below hb1 hN))
            all_goals go_quiet ((go_at_call 250; refine quiet_drawn (mask_front.calls _ _ _ HF.out)))
            all_goals go_wp2
            all_goals go_ret2
            all_goals exact ⟨rfl, pw_below_drewN (below_then hA1 hA1.size hb1) _⟩
    · have hzz : ¬ a0 = 0 := hz0
      obtain rfl : z = 64 := by have := HZ.out; unfold mask_Decode.size at this; rw [if_neg hz0] at this; exact (Option.some.inj this).symm
      by_cases hok : 1 ≤ o ∧ o < 64 ∧ a1 < 64
      · rw [if_pos hok] at H2
        obtain ⟨ho1, ho2, ho3⟩ := hok
        obtain ⟨u, h1, H2⟩ := Option.bind_eq_some_iff.mp H2
        obtain ⟨p, h2, H2⟩ := Option.bind_eq_some_iff.mp H2
        obtain ⟨v, h3, H2⟩ := Option.bind_eq_some_iff.mp H2
        obtain ⟨p1, p2⟩ := p
        obtain ⟨rfl, rfl⟩ := Prod.mk.inj (Option.some.inj H2)
        have G1 := aq h1
        have G2 := aq h2
        have G3 := aq h3
        clear H2 h1 h2 h3
        go_enter Tryz.func206, Tryz.ntmps206
        go_wp2
        all_goals go_quiet ((go_at_call 250; refine quiet_drawn (mask_front.calls _ _ _ HF.out)))
        go_wp2_with (first | (go_at_call 111; refine (bits_Low.calls _ _ _ _ G1.out).mono ?_; rintro e w2 ⟨rfl, hb2⟩) | (go_at_call 249; refine (bits_Rotate.calls _ _ _ _ _ _ _ G2.out).mono ?_; rintro e w3 ⟨rfl, hb3⟩) | (go_at_call 255; refine (mask_again.calls _ _ _ _ _ G3.out).mono ?_; rintro e w4 ⟨rfl, ⟨n4, rfl⟩⟩))
        go_ret2
        have B1 := fun n => pw_below_drewN hA1 n
        have B2 := below_then (B1 _) (B1 _).size hb2
        exact ⟨rfl, pw_below_drewN (below_then B2 B2.size hb3) _⟩
      · rw [if_neg hok] at H2
        obtain ⟨rfl, rfl⟩ := Prod.mk.inj (Option.some.inj H2)
        clear H2
        rcases Int.lt_or_le o 1 with c1 | c1
        · go_enter Tryz.func206, Tryz.ntmps206
          go_wp2
          all_goals go_quiet ((go_at_call 250; refine quiet_drawn (mask_front.calls _ _ _ HF.out)))
          all_goals go_wp2
          all_goals go_ret2
          all_goals exact ⟨rfl, pw_below_drewN hA1 _⟩
        · rcases Int.lt_or_le o 64 with c2 | c2
          · have c3 : 64 ≤ a1 := by omega
            go_enter Tryz.func206, Tryz.ntmps206
            go_wp2
            all_goals go_quiet ((go_at_call 250; refine quiet_drawn (mask_front.calls _ _ _ HF.out)))
            all_goals go_wp2
            all_goals go_ret2
            all_goals exact ⟨rfl, pw_below_drewN hA1 _⟩
          · go_enter Tryz.func206, Tryz.ntmps206
            go_wp2
            all_goals go_quiet ((go_at_call 250; refine quiet_drawn (mask_front.calls _ _ _ HF.out)))
            all_goals go_wp2
            all_goals go_ret2
            all_goals exact ⟨rfl, pw_below_drewN hA1 _⟩
  · have hz : m2 < 0 ∨ 1 < a0 ∨ 64 ≤ m3 := by omega
    rw [if_neg hin] at h
    obtain ⟨rfl, rfl⟩ := Prod.mk.inj (Option.some.inj h)
    clear h hin
    rcases Int.lt_or_le m2 0 with c1 | c1
    · go_enter Tryz.func206, Tryz.ntmps206
      go_wp2
      go_ret2
      exact ⟨rfl, hA _⟩
    · rcases Int.lt_or_le 1 a0 with c2 | c2
      · go_enter Tryz.func206, Tryz.ntmps206
        go_wp2
        go_ret2
        exact ⟨rfl, hA _⟩
      · have c3 : 64 ≤ m3 := by omega
        go_enter Tryz.func206, Tryz.ntmps206
        go_wp2
        go_ret2
        exact ⟨rfl, hA _⟩
end Go.Proofs.YtflojfcioojgbaaGreatDoor.P
