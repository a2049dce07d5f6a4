/- Written for this claim by a program of this session: what the claim uses of lemmas and proved contracts of Go functions. -/
import Derived.Test.YtblnfngigdipcaaGreatDoorYSd12
import Derived.ChangeKeysEq
import Derived.OpenShut
import Derived.ChangeOld
import Derived.SizedLaws
import Derived.Carry
import Derived.Deep.Fields
set_option linter.unusedVariables false
set_option linter.unusedSimpArgs false
set_option maxHeartbeats 8000000
set_option maxRecDepth 100000
namespace Go.Proofs.YtblnfngigdipcaaGreatDoor.ST
open Go.RowKit Go.Proofs.YtblnfngigdipcaaGreatDoor.P Go.Proofs.YtblnfngigdipcaaGreatDoorW.PrintWords Go.Proofs.YtblnfngigdipcaaGreatDoorW.PrintLast Go.Proofs.YtblnfngigdipcaaGreatDoorW.PrintMore
open Go.ChangeShapes Go.WideShapes Go.ChangeAt Go.RowKit Go.Deep
theorem cells_u64 : Tryz.prog.cellsOf 22 = 1 := by kernel_rfl
theorem eq_one (v : Int) (w : World) (d : Nat) : (Op.equalIn (d + 1) 22 (.int .u64 v) (.int .u64 v)).run Tryz.prog w = .ok true w := by
 simp [Op.equalIn, run_underlying Tryz.underlying22, Result.andThen]
theorem part_one (xs : Array Value) (i : Nat) (v : Int) (h : xs[i]? = some (.int .u64 v)) (w : World) : (part 22 xs i).run Tryz.prog w = .ok (.int .u64 v) w := by
 simp [part, isAgg, run_underlying Tryz.underlying22, Result.andThen, h]
theorem eq_items (A : Array Value) (d : Nat) (w : World) : ∀ is : List Nat, (∀ i, i ∈ is → ∃ v, A[i]? = some (.int .u64 v)) → (Op.eqItems (d + 1) 22 1 A A is).run Tryz.prog w = .ok true w
 | [], _ => by simp [Op.eqItems]
 | i :: is, h => by
  obtain ⟨v, hv⟩ := h i (by simp)
  have ih := eq_items A d w is (fun j hj => h j (by simp [hj]))
  unfold Op.eqItems
  simp only [Sem.run_bind, Nat.mul_one, part_one A i v hv w, Result.andThen_ok, eq_one, ih]
  simp [ih]
theorem eq_arr (A : Array Value) (h : ∀ i, i < 31 → ∃ v, A[i]? = some (.int .u64 v)) (d : Nat) (w : World) : (Op.equalIn (d + 1 + 1) 23 (.agg A) (.agg A)).run Tryz.prog w = .ok true w := by
 obtain ⟨i, hi⟩ : ∃ i, Tryz.prog.info? 22 = some i := Option.isSome_iff_exists.1 (by kernel_rfl)
 rw [run_equalIn_array w (d + 1) A A Tryz.underlying23 hi, cells_u64]
 exact eq_items A d w _ (fun i hi => h i (by simpa using hi))
theorem eq_cpu (c : CPU) (w : World) : (binOp .eql 27 (.agg c.a) (.agg c.a)).run Tryz.prog w = .ok (.bool true) w := by
 have h := eq_arr (c.l.take 31).toArray (fun i hi => ⟨c.x i, by
  rw [List.getElem?_toArray, List.getElem?_take, if_pos hi]
  have := c.get hi
  rwa [CPU.a, List.getElem?_toArray] at this⟩) 9997 w
 simp only [CPU.l, List.take_succ_cons, List.take_zero] at h
 simp [go_sem, CPU.a, CPU.l, h]
theorem under_cpu' : Tryz.prog.underlying 27 = some (.struct (Tryz.prog.fieldsOf 27)) := by kernel_rfl
theorem fields_cpu : (Tryz.prog.fieldsOf 27).toList.map (fun f => (f.type, f.offset)) = [(23, 0), (22, 31), (22, 32), (25, 33)] := by kernel_rfl
theorem under_fl' : Tryz.prog.underlying 25 = some (.struct (Tryz.prog.fieldsOf 25)) := by kernel_rfl
theorem fields_fl : (Tryz.prog.fieldsOf 25).toList.map (fun f => (f.type, f.offset)) = [(4, 0), (4, 1), (4, 2), (4, 3)] := by kernel_rfl
theorem field_at {fs : Array Field} {L : List (Nat × Nat)} (h : fs.toList.map (fun f => (f.type, f.offset)) = L) (i : Nat) (t o : Nat) (hi : L[i]? = some (t, o)) : ∃ f, fs[i]? = some f ∧ f.type = t ∧ f.offset = o := by
 rw [← h, List.getElem?_map] at hi
 obtain ⟨f, hf, e⟩ := Option.map_eq_some_iff.1 hi
 simp only [Prod.mk.injEq] at e
 exact ⟨f, by rw [← Array.getElem?_toList]; exact hf, e.1, e.2⟩
def u64At (l : List Value) (i : Nat) : Int := match l[i]? with | some (.int .u64 a) => a | _ => 0
def boolAt (l : List Value) (i : Nat) : Bool := match l[i]? with | some (.bool a) => a | _ => false
def cpuOf (l : List Value) : CPU := ⟨fun i => if i < 31 then u64At l i else 0, u64At l 31, u64At l 32, boolAt l 33, boolAt l 34, boolAt l 35, boolAt l 36⟩
theorem one_of_take {l : List Value} {i : Nat} {x : Value} (h : (l.drop i).take 1 = [x]) : l[i]? = some x := by
 have := congrArg (fun k => k[0]?) h
 simp only [List.getElem?_take, List.getElem?_drop, List.getElem?_cons_zero, Nat.add_zero] at this
 simpa using this
theorem cpuOf_l (l : List Value) (hl : l.length = 37) (hx : ∀ i, i < 33 → ∃ a, l[i]? = some (.int .u64 a)) (hb : ∀ i, 33 ≤ i → i < 37 → ∃ b, l[i]? = some (.bool b)) : (cpuOf l).l = l := by
 have ux : ∀ i, i < 33 → l[i]? = some (.int .u64 (u64At l i)) := fun i hi => by
  obtain ⟨a, ha⟩ := hx i hi
  unfold u64At; rw [ha]
 have ub : ∀ i, 33 ≤ i → i < 37 → l[i]? = some (.bool (boolAt l i)) := fun i h1 h2 => by
  obtain ⟨a, ha⟩ := hb i h1 h2
  unfold boolAt; rw [ha]
 apply List.ext_getElem?
 intro i
 by_cases h1 : i < 31
 ·have := (cpuOf l).get h1
  rw [CPU.a, List.getElem?_toArray] at this
  rw [this, ux i (by omega)]
  show some (Value.int .u64 (if i < 31 then u64At l i else 0)) = _
  rw [if_pos h1]
 ·by_cases h2 : i < 37
  ·have : i = 31 ∨ i = 32 ∨ i = 33 ∨ i = 34 ∨ i = 35 ∨ i = 36 := by omega
   rcases this with rfl | rfl | rfl | rfl | rfl | rfl
   ·exact (ux 31 (by decide)).symm
   ·exact (ux 32 (by decide)).symm
   ·exact (ub 33 (by decide) (by decide)).symm
   ·exact (ub 34 (by decide) (by decide)).symm
   ·exact (ub 35 (by decide) (by decide)).symm
   ·exact (ub 36 (by decide) (by decide)).symm
  ·rw [List.getElem?_eq_none (by show (37 : Nat) ≤ i; omega), List.getElem?_eq_none (by omega)]
theorem open_cpu {H : Type} {enc : TypeId × Value → H} {w : World} {base : Nat} {spare : Nat → Bool} {held : Bool} {r : Reach} {b0 : Nat} {v : Value} {d : DataW H} {p : List MemPlace}
  (hv : Value.okWide Tryz.prog w r b0 27 v) (h : DataW.Trod enc Tryz.prog w base spare held 27 v d p) : ∃ c : CPU, v = .agg c.a ∧ c.ok := by
 obtain ⟨cs, rfl, hsz⟩ := okWide_struct under_cpu' hv
 obtain ⟨l⟩ := cs
 have hl : l.length = 37 := by simpa using hsz.trans (show Tryz.prog.cellsOf 27 = 37 by kernel_rfl)
 obtain ⟨fuel, hf⟩ := h
 obtain ⟨xs, n, _, hx, _, hxl, hg⟩ := DataW.trod_struct under_cpu' hf
 have hxl : xs.length = 4 := hxl.trans (by kernel_rfl)
 have get : ∀ (i : Nat), i < 4 → ∃ y, xs[i]? = some y := fun i hi => ⟨xs[i], List.getElem?_eq_getElem (by omega)⟩
 obtain ⟨f0, hf0, t0, o0⟩ := field_at fields_cpu 0 _ _ rfl
 obtain ⟨f1, hf1, t1, o1⟩ := field_at fields_cpu 1 _ _ rfl
 obtain ⟨f2, hf2, t2, o2⟩ := field_at fields_cpu 2 _ _ rfl
 obtain ⟨f3, hf3, t3, o3⟩ := field_at fields_cpu 3 _ _ rfl
 have g0 := hg 0 f0 hf0
 have g1 := hg 1 f1 hf1
 have g2 := hg 2 f2 hf2
 have g3 := hg 3 f3 hf3
 rw [t0, o0, show Tryz.prog.cellsOf 23 = 31 by kernel_rfl] at g0
 rw [t1, o1, cells_u64] at g1
 rw [t2, o2, cells_u64] at g2
 rw [t3, o3, show Tryz.prog.cellsOf 25 = 4 by kernel_rfl] at g3
 obtain ⟨y0, hy0⟩ := get 0 (by decide)
 obtain ⟨y1, hy1⟩ := get 1 (by decide)
 obtain ⟨y2, hy2⟩ := get 2 (by decide)
 obtain ⟨y3, hy3⟩ := get 3 (by decide)
 simp only [Value.cells] at g0 g1 g2 g3
 rw [hy0] at g0
 rw [hy1] at g1
 rw [hy2] at g2
 rw [hy3] at g3
 have un : ∀ (m : Nat) (k : Nat) (q : List Value) (y : DataW H × List MemPlace), (q = (l.drop k).take 1) → DataW.trod enc Tryz.prog w base spare held m 22 q = some y → ∃ a, l[k]? = some (.int .u64 a) ∧ 0 ≤ a ∧ a < 18446744073709551616 := by
  intro m k q y hq hy
  obtain ⟨a, e, _, wf⟩ := DataW.trod_int Tryz.underlying22 hy
  refine ⟨a, one_of_take (by rw [← hq, e]), ?_⟩
  simp [Lit.wf, IntKind.min, IntKind.max, IntKind.bits, IntKind.signed] at wf
  omega
 have hX : ∀ i, i < 31 → ∃ a, l[i]? = some (.int .u64 a) ∧ 0 ≤ a ∧ a < 18446744073709551616 := by
  obtain ⟨zs, m, _, _, _, hzl, hz⟩ := DataW.trod_array Tryz.underlying23 g0
  intro i hi
  have h1 := hz i hi
  rw [cells_u64, Nat.mul_one, List.getElem?_eq_getElem (show i < zs.length by omega)] at h1
  refine un _ i _ _ ?_ h1
  rw [List.drop_zero, List.drop_take, List.take_take]
  congr 1
  omega
 have hS := un _ 31 _ _ rfl g1
 have hP := un _ 32 _ _ rfl g2
 have hF : ∀ i, i < 4 → ∃ b, l[33 + i]? = some (.bool b) := by
  obtain ⟨zs, m, _, _, _, hzl, hz⟩ := DataW.trod_struct under_fl' g3
  have hzl : zs.length = 4 := hzl.trans (by kernel_rfl)
  intro i hi
  have hfi : ([(4, 0), (4, 1), (4, 2), (4, 3)] : List (Nat × Nat))[i]? = some (4, i) := by
   have : i = 0 ∨ i = 1 ∨ i = 2 ∨ i = 3 := by omega
   rcases this with rfl | rfl | rfl | rfl <;> rfl
  obtain ⟨f, hf, tf, of⟩ := field_at fields_fl i _ _ hfi
  have h1 := hz i f hf
  rw [tf, of, show Tryz.prog.cellsOf 4 = 1 by kernel_rfl, List.getElem?_eq_getElem (show i < zs.length by omega)] at h1
  obtain ⟨b, e, _⟩ := DataW.trod_bool Tryz.underlying4 h1
  refine ⟨b, one_of_take ?_⟩
  rw [← e, List.drop_take, List.take_take, List.drop_drop]
  congr 1
  omega
 have hX2 : ∀ i, i < 33 → ∃ a, l[i]? = some (.int .u64 a) ∧ 0 ≤ a ∧ a < 18446744073709551616 := fun i hi => by
  by_cases h1 : i < 31
  ·exact hX i h1
  ·have : i = 31 ∨ i = 32 := by omega
   rcases this with rfl | rfl
   ·exact hS
   ·exact hP
 refine ⟨cpuOf l, ?_, ?_⟩
 ·rw [CPU.a, cpuOf_l l hl (fun i hi => by obtain ⟨a, h, _⟩ := hX2 i hi; exact ⟨a, h⟩) (fun i h1 h2 => by
   obtain ⟨b, hb⟩ := hF (i - 33) (by omega)
   rw [show 33 + (i - 33) = i by omega] at hb
   exact ⟨b, hb⟩)]
 ·have hu : ∀ i, i < 33 → 0 ≤ u64At l i ∧ u64At l i < 18446744073709551616 := fun i hi => by
   obtain ⟨a, h, h2⟩ := hX2 i hi
   unfold u64At; rw [h]; exact h2
  refine ⟨fun i => ?_, hu 31 (by decide), hu 32 (by decide)⟩
  show 0 ≤ (if i < 31 then u64At l i else 0) ∧ (if i < 31 then u64At l i else 0) < 18446744073709551616
  by_cases h1 : i < 31
  ·rw [if_pos h1]; exact hu i (by omega)
  ·rw [if_neg h1]; omega
theorem put_pc (c : CPU) (n : Int) (st : Bool) (v : Int) : (c.put n st v).pc = c.pc ∧ (c.put n st v).n = c.n ∧ (c.put n st v).z = c.z ∧ (c.put n st v).c = c.c ∧ (c.put n st v).v = c.v := by
 unfold CPU.put CPU.setX
 split
 ·exact ⟨rfl, rfl, rfl, rfl, rfl⟩
 ·split <;> exact ⟨rfl, rfl, rfl, rfl, rfl⟩
end Go.Proofs.YtblnfngigdipcaaGreatDoor.ST
namespace Go.Proofs.YtblnfngigdipcaaGreatDoor.ST
open Go.RowKit Go.Proofs.YtblnfngigdipcaaGreatDoor.P Go.Proofs.YtblnfngigdipcaaGreatDoorW.PrintWords Go.Proofs.YtblnfngigdipcaaGreatDoorW.PrintLast Go.Proofs.YtblnfngigdipcaaGreatDoorW.PrintMore Go.Proofs.YtblnfngigdipcaaGreatDoor.MW Go.Proofs.YtblnfngigdipcaaGreatDoor.M
theorem word_calls {w : World} {mb lo hi : Nat} {L : List MP} (hm : MemOk w mb lo hi L) {c : CPU} (hc : c.ok) : Calls Tryz.prog 25 #[.pointer (some ⟨mb, 0, none⟩), .int .u64 c.pc] w fun e w' => e = .returned (.tuple #[.int .u32 (mword L c.pc).1, .int .i64 (mword L c.pc).2]) ∧ Below w.heap.size w w' :=
 word_at hm c.pc hc.pc.1 hc.pc.2
theorem dec_calls (wd : Int) (h0 : 0 ≤ wd) (h1 : wd < 4294967296) (W : World) (hT : TabW W) : Calls Tryz.prog 26 #[.int .u32 wd] W fun e w' => e = .returned (.tuple #[.agg (decF wd).1.v, .int .i64 (decF wd).2]) ∧ Below W.heap.size W w' :=
 code_Decode.calls 1000 wd _ _ _ _ _ _ _ _ _ _ _ W (decF_ok wd h0 h1).1 hT
theorem inst_box (w : World) (i : INS) : ∃ W, W = (w.alloc (.cells INS.zero.v 51)).setCells w.heap.size 0 i.v.toList ∧ W.heap[w.heap.size]? = some (.cells i.v 51 (0, 0)) ∧ Below w.heap.size w W := by
 have n := blk_sets i.v.toList 0 (blk_new w (.cells INS.zero.v 51))
 have e : sets INS.zero.v 0 i.v.toList = i.v := by simp [sets, INS.v, INS.zero]
 rw [e] at n
 exact ⟨_, rfl, n, below_sets (Nat.le_refl _) _ 0 (below_alloc (Below.refl _ _) _)⟩
theorem ce_boxes (w : World) (c : CPU) (k u : Int) : ∃ W, W = (((w.alloc (.cells CPU.zero.a 27)).alloc (.cells (evA 0 0) 55)).setCells w.heap.size 0 c.l).setCells (w.heap.size + 1) 0 (evA k u).toList ∧
  W.heap[w.heap.size]? = some (.cells c.a 27 (0, 0)) ∧ W.heap[w.heap.size + 1]? = some (.cells (evA k u) 55 (0, 0)) ∧ Below w.heap.size w W := by
 have y4 : ((w.alloc (.cells CPU.zero.a 27)).alloc (.cells (evA 0 0) 55)).heap[w.heap.size]? = some (.cells CPU.zero.a 27 (0, 0)) := blk_alloc (blk_new w _) _
 have y5 := new_last w (.cells CPU.zero.a 27) (.cells (evA 0 0) 55)
 obtain ⟨z4, z5⟩ := two_sets y4 y5 (Nat.succ_ne_self _).symm c k u
 exact ⟨_, rfl, z4, z5, below_sets (Nat.le_succ _) _ 0 (below_sets (Nat.le_refl _) _ 0 (below_alloc (below_alloc (Below.refl _ _) _) _))⟩
end Go.Proofs.YtblnfngigdipcaaGreatDoor.ST
namespace Go.Proofs.YtblnfngigdipcaaGreatDoor.Pure
open Go.RowKit Go.Proofs.YtblnfngigdipcaaGreatDoor.P Go.Proofs.YtblnfngigdipcaaGreatDoorW.PrintWords Go.Proofs.YtblnfngigdipcaaGreatDoorW.PrintLast Go.Proofs.YtblnfngigdipcaaGreatDoorW.PrintMore Go.Proofs.YtblnfngigdipcaaGreatDoor.MW Go.Proofs.YtblnfngigdipcaaGreatDoor.ST Go.Proofs.YtblnfngigdipcaaGreatDoor.M
theorem is_zero : inst_Is.f 1000 0 0 0 0 0 0 0 0 0 0 = some false := by decide +kernel
theorem dec_any (w : Int) (h0 : 0 ≤ w) (h1 : w < 4294967296) : ∃ ok, inst_Is.f 1000 (decF w).1.o (decF w).1.d (decF w).1.n (decF w).1.m (decF w).1.a (decF w).1.im (decF w).1.ms (decF w).1.sh (decF w).1.am (decF w).1.cd = some ok ∧ ((decF w).2 = 0 → ok = true ∧ (decF w).1.okI) := by
 by_cases he : (decF w).2 = 0
 ·obtain ⟨h2, h3⟩ := (decF_ok w h0 h1).2 he
  exact ⟨true, h3, fun _ => ⟨rfl, h2⟩⟩
 ·obtain ⟨W, rfl⟩ := Int.eq_ofNat_of_zero_le h0
  rcases back_all W (by omega) with h | ⟨c, h, -⟩
  ·have e : decF (W : Int) = (⟨0, 0, 0, 0, 0, 0, 0, 0, 0, 0⟩, 11) := by unfold decF; rw [h]; rfl
   rw [e]
   exact ⟨false, is_zero, fun h => absurd h (by decide)⟩
  ·have e : decF (W : Int) = (⟨c.o, c.d, c.n, c.m, c.a, c.im, c.ms, c.sh, c.am, c.cd⟩, 0) := by unfold decF; rw [h]; rfl
   rw [e] at he
   exact absurd rfl he
theorem reads_pure (L : List MP) (c : CPU) (k : Nat) (v : Int) (hk : k < 31) (i : INS) (ie : Int) (hq : decF (mword L c.pc).1 = (i, ie)) (hok : ie = 0 → i.okI) (hr : ie = 0 → noRead i k) :
  (stepF L (c.setX k v)).e = (stepF L c).e ∧ (stepF L (c.setX k v)).k = (stepF L c).k ∧ (stepF L (c.setX k v)).u = (stepF L c).u ∧ ((stepF L c).e = 0 → (mword L c.pc).2 = 0 ∧ ie = 0 ∧ samePL i.o i.d k v c (stepF L c) (stepF L (c.setX k v))) := by
 unfold stepF
 have hpc : (c.setX k v).pc = c.pc := rfl
 rw [hpc, hq]
 by_cases he : (mword L c.pc).2 = 0
 ·rw [if_pos he, if_pos he]
  by_cases h0 : ie = 0
  ·simp only [if_pos h0]
   obtain ⟨h1, h2, h3, h4⟩ := do_same L c i k v (hok h0) (hr h0) hk
   exact ⟨h1, h2, h3, fun h => ⟨he, h0, h4 h⟩⟩
  ·rw [if_neg h0, if_neg h0]
   exact ⟨rfl, rfl, rfl, fun h => absurd h h0⟩
 ·rw [if_neg he, if_neg he]
  exact ⟨rfl, rfl, rfl, fun h => absurd h he⟩
theorem rdV_len (ok : Bool) (op d n m a : Int) : (rdV ok op d n m a).length ≤ 5 := by
 rw [rdV_eq]
 split
 ·exact refR_len op d n m a
 ·decide
theorem ok_setX {c : CPU} (h : c.ok) (k : Nat) (v : Int) (v0 : 0 ≤ v) (v1 : v < 18446744073709551616) : (c.setX k v).ok :=
 ⟨fun n => by
  show 0 ≤ (if n = k then v else c.x n) ∧ (if n = k then v else c.x n) < 18446744073709551616
  by_cases e : n = k
  ·rw [if_pos e]; exact ⟨v0, v1⟩
  ·rw [if_neg e]; exact h.x n, h.sp, h.pc⟩
theorem setX_get (c : CPU) (k : Nat) (v : Int) : (c.setX k v).x k = v := if_pos rfl
theorem setX_back (c : CPU) (k : Nat) (v : Int) : (c.setX k v).setX k (c.x k) = c := by
 rw [CPU.set_set]
 obtain ⟨x, sp, pc, n, z, cc, vv⟩ := c
 show CPU.mk _ _ _ _ _ _ _ = _
 congr
 funext j
 by_cases e : j = k
 ·rw [if_pos e, e]
 ·rw [if_neg e]
theorem wpList_load_want {P : Program} {ops : Array Oper} {rest : List Oper} {op : Oper} {a : Act} {w : World} {Q : Exit → Act → World → Prop} (hw : Region.wanted op (yielded ops a.tmps) = true) (ty : TypeId) (x : Operand) (ho : op.op = .load ty x)
  (b o : Nat) (hx : a.eval x = .pointer (some ⟨b, o, none⟩)) (cs : List Value) (d : TypeDesc) (hc : w.rangeAt b o cs)
  (hu : P.underlying ty = some d) (hd : d.isRow = true) (hi : (P.info? ty).map (·.size) = some cs.length)
  (h : wpList P ops Q rest (a.put op.dst (.agg cs.toArray)) w) : wpList P ops Q (op :: rest) a w :=
 wpList_step fun K hK => by rw [if_pos hw]; exact wp_load_mid ty x ho b o hx cs d hc hu hd hi (hK _ _ h)
theorem cpu_box (w : World) (c : CPU) : ∃ W, W = (w.alloc (.cells CPU.zero.a 27)).setCells w.heap.size 0 c.l ∧ W.heap[w.heap.size]? = some (.cells c.a 27 (0, 0)) ∧ Below w.heap.size w W := by
 have n4 := blk_sets c.l 0 (blk_new w (.cells CPU.zero.a 27))
 rw [CPU.sets_] at n4
 exact ⟨_, rfl, n4, below_sets (Nat.le_refl _) _ 0 (below_alloc (Below.refl _ _) _)⟩
theorem StepReads_early (c : CPU) (A1 : Option Addr) (c1 : Nat) (l1 : List S61) (k v : Int) (W : World) (b : Bool) (hbig : cleatref07_Big.f 100 l1 = some b) (hr1 : Kd.C k61 W A1 l1.length l1) (hc1 : l1.length ≤ c1) (hTab : TabW W)
  (h : b = true ∨ (b = false ∧ (k < 0 ∨ 30 < k))) :
  Calls Tryz.prog 6 #[.agg c.a, .slice A1 l1.length c1, .int .i64 k, .int .u64 v] W fun e w' => e = .returned (.bool true) ∧ Below W.heap.size W w' := by
 have HBIG := aq (fun w hR => cleatref07_Big.calls 100 A1 c1 l1 b w hR hc1 hbig)
 have HR := aq (Kd.C_below hr1 (below_alloc (Below.refl W.heap.size W) (.cells c.a 27)))
 have HT := aq hTab
 have hcase : b = true ∨ (b = false ∧ decide (k < 0) = true) ∨ (b = false ∧ decide (k < 0) = false ∧ decide (k > 30) = true) := by
  rcases h with h | ⟨h, h2⟩
  ·exact .inl h
  ·by_cases h3 : k < 0
   ·exact .inr (.inl ⟨h, decide_eq_true h3⟩)
   ·exact .inr (.inr ⟨h, decide_eq_false h3, decide_eq_true (by omega)⟩)
 clear h hbig hr1 hc1 hTab
 rcases hcase with rfl | ⟨rfl, d1⟩ | ⟨rfl, d1, d2⟩
 all_goals
  go_enter Tryz.func6, Tryz.ntmps6
  go_wp2_with fail
  refine (HBIG.out _ HR.out).mono ?_
  rintro e w1 ⟨rfl, ⟨n1, rfl⟩⟩
  have HB := aq (pw_below_drewN (below_alloc (Below.refl W.heap.size W) (.cells c.a 27)) n1)
  go_wp2_with fail
  refine (stepped_calls _ (HT.out.below HB.out)).mono ?_
  rintro e w2 ⟨rfl, hb⟩
  have HB2 := aq (below_step HB.out hb)
  clear hb
  go_wp2
  go_ret
  exact ⟨rfl, HB2.out⟩
theorem StepReads_none (c : CPU) (A1 : Option Addr) (c1 : Nat) (l1 : List S61) (k v : Int) (W : World) (hbig : cleatref07_Big.f 100 l1 = some false) (hr1 : Kd.C k61 W A1 l1.length l1) (hc1 : l1.length ≤ c1) (hTab : TabW W)
  (hl : l1.length ≤ 20) (hgl : ∀ r, r ∈ l1 → 0 ≤ r.f0 ∧ r.f0 < 18446744073709551616) (k0 : 0 ≤ k) (k1 : k ≤ 30) (hv : newV l1 ≠ 0) :
  Calls Tryz.prog 6 #[.agg c.a, .slice A1 l1.length c1, .int .i64 k, .int .u64 v] W fun e w' => e = .returned (.bool true) ∧ Below W.heap.size W w' := by
 have HBIG := aq (fun w hR => cleatref07_Big.calls 100 A1 c1 l1 false w hR hc1 hbig)
 have HNEW := aq (fun w (hR : Kd.C k61 w A1 l1.length l1) => (new_at w A1 c1 l1 hR hc1 (by omega) hgl).1 hv)
 have HR := aq (Kd.C_below hr1 (below_alloc (Below.refl W.heap.size W) (.cells c.a 27)))
 have HT := aq hTab
 have d1 : decide (k < 0) = false := decide_eq_false (by omega)
 have d2 : decide (k > 30) = false := decide_eq_false (by omega)
 have hv' : (newV l1 != 0) = true := by simpa using hv
 clear hbig hr1 hc1 hTab hl hgl k0 k1 hv
 generalize newV l1 = x at *
 go_enter Tryz.func6, Tryz.ntmps6
 go_wp2_with fail
 refine (HBIG.out _ HR.out).mono ?_
 rintro e w1 ⟨rfl, ⟨n1, rfl⟩⟩
 have HB := aq (pw_below_drewN (below_alloc (Below.refl W.heap.size W) (.cells c.a 27)) n1)
 have HR1 := aq (Kd.C_below HR.out (pw_below_drewN (Below.refl _ _) n1))
 go_wp2_with fail
 refine (HNEW.out _ HR1.out).mono ?_
 rintro e w2 ⟨rfl, hb⟩
 have HB2 := aq (below_step HB.out hb)
 have HR2 := aq (Kd.C_below HR1.out hb)
 clear hb
 go_wp2_with fail
 refine (HNEW.out _ HR2.out).mono ?_
 rintro e w3 ⟨rfl, hb⟩
 have HB3 := aq (below_step HB2.out hb)
 clear hb
 go_wp2_with fail
 refine (stepped_calls _ (HT.out.below HB3.out)).mono ?_
 rintro e w4 ⟨rfl, hb⟩
 have HB4 := aq (below_step HB3.out hb)
 clear hb
 go_wp2
 go_ret
 exact ⟨rfl, HB4.out⟩
theorem StepReads_main (c : CPU) (hc : c.ok) (A1 : Option Addr) (c1 : Nat) (l1 : List S61) (k : Nat) (v : Int) (W : World) (hbig : cleatref07_Big.f 100 l1 = some false) (hr1 : Kd.C k61 W A1 l1.length l1) (hc1 : l1.length ≤ c1) (hTab : TabW W)
  (hl : l1.length ≤ 20) (hgl : ∀ r, r ∈ l1 → 0 ≤ r.f0 ∧ r.f0 < 18446744073709551616) (hk : k < 31) (v0 : 0 ≤ v) (v1 : v < 18446744073709551616) (hv : newV l1 = 0) :
  Calls Tryz.prog 6 #[.agg c.a, .slice A1 l1.length c1, .int .i64 (k : Int), .int .u64 v] W fun e w' => e = .returned (.bool true) ∧ Below W.heap.size W w' := by
 have HBIG := aq (fun w hR => cleatref07_Big.calls 100 A1 c1 l1 false w hR hc1 hbig)
 have HNEW := aq (fun w (hR : Kd.C k61 w A1 l1.length l1) => (new_at w A1 c1 l1 hR hc1 (by omega) hgl).2 hv)
 have HR := aq (Kd.C_below hr1 (below_alloc (Below.refl W.heap.size W) (.cells c.a 27)))
 have HC := aq (blk_new W (.cells c.a 27))
 have HT := aq hTab
 have HCO := aq hc
 have HCO2 := aq (ok_setX hc k v v0 v1)
 have d1 : decide ((k : Int) < 0) = false := decide_eq_false (by omega)
 have d2 : decide ((k : Int) > 30) = false := decide_eq_false (by omega)
 have HKK := aq hk
 have HGOOD := aq (memL_good hv (fun r hr => (hgl r hr).1))
 have hW0 : 0 < (W.alloc (.cells c.a 27)).heap.size := by show 0 < (W.heap.push _).size; rw [Array.size_push]; omega
 have HW0 := aq hW0
 clear hbig hr1 hc1 hTab hl hgl hv hc hW0 v0 v1
 generalize memL l1 = L at *
 go_enter Tryz.func6, Tryz.ntmps6
 go_wp2_with fail
 refine (HBIG.out _ HR.out).mono ?_
 rintro e w1 ⟨rfl, ⟨n1, rfl⟩⟩
 have hb1 := pw_below_drewN (Below.refl (W.alloc (.cells c.a 27)).heap.size (W.alloc (.cells c.a 27))) n1
 have HB := aq (below_step (below_alloc (Below.refl W.heap.size W) (.cells c.a 27)) hb1)
 have HR1 := aq (Kd.C_below HR.out hb1)
 have HC1 := aq (blk_below HC.out hb1)
 have HW1 := aq (Nat.lt_of_lt_of_le HW0.out hb1.size)
 clear hb1
 generalize (W.alloc (.cells c.a 27)).drewN n1 = w1 at *
 clear HR HC HW0
 go_wp2_with fail
 refine (HNEW.out _ HR1.out).mono ?_
 rintro e w2 ⟨rfl, hb, hm⟩
 have HB2 := aq (below_step HB.out hb)
 have HR2 := aq (Kd.C_below HR1.out hb)
 have HC2 := aq (blk_below HC1.out hb)
 have HMA2 := aq hm
 have HLA := aq (show W.heap.size ≤ w1.heap.size from HB.out.size)
 have HMS := aq (show w1.heap.size ≤ w2.heap.size from hb.size)
 have HLT := aq (blk_lt HC1.out)
 clear hb hm
 generalize w1.heap.size = MA at *
 go_wp2_with fail
 refine (HNEW.out _ HR2.out).mono ?_
 rintro e w3 ⟨rfl, hb, hm⟩
 have HB3 := aq (below_step HB2.out hb)
 have HC3 := aq (blk_below HC2.out hb)
 have HMA3 := aq (HMA2.out.below hb)
 have HMB3 := aq hm
 have HLB := aq (show W.heap.size ≤ w2.heap.size from HB2.out.size)
 have HS23 := aq hb.size
 have HMAB := aq (show 0 < w2.heap.size from Nat.lt_of_lt_of_le HW1.out HMS.out)
 clear hb hm HNEW HBIG HR1 HR2 HC1 HC2 HB HB2 HMA2
 have cp := (blk_cell HC3.out 32).trans (show c.a[32]? = some (.int .u64 c.pc) from rfl)
 go_wp2_with fail
 refine (word_calls HMA3.out HCO.out).mono ?_
 rintro e w4 ⟨rfl, hb⟩
 have HB4 := aq (below_step HB3.out hb)
 have HC4 := aq (blk_below HC3.out hb)
 have HMA4 := aq (HMA3.out.below hb)
 have HMB4 := aq (HMB3.out.below hb)
 have HS4 := aq hb.size
 clear hb cp HB3 HC3 HMA3 HMB3
 have hwd := word_in HGOOD.out c.pc
 have HDEC := aq (dec_calls (mword L c.pc).1 hwd.1 hwd.2 w4 (HT.out.below HB4.out))
 obtain ⟨ok, his, hok⟩ := dec_any (mword L c.pc).1 hwd.1 hwd.2
 have HRP := aq (fun i ie hq h1 h2 => reads_pure L c k v HKK.out i ie hq h1 h2)
 have HSTA := aq (fun (w : World) (hm : MemOk w MA MA w2.heap.size L) (hT : TabW w) (ht : w2.heap.size ≤ w.heap.size) => step_at L c w MA MA w2.heap.size hm HCO.out hT ht HW1.out)
 have HSTB := aq (fun (w : World) (hm : MemOk w w2.heap.size w2.heap.size w3.heap.size L) (hT : TabW w) (ht : w3.heap.size ≤ w.heap.size) => step_at L (c.setX k v) w w2.heap.size w2.heap.size w3.heap.size hm HCO2.out hT ht HMAB.out)
 generalize stepF L (c.setX k v) = q at *
 generalize stepF L c = p at *
 generalize hq : decF (mword L c.pc).1 = ii at *
 obtain ⟨i, ie⟩ := ii
 have HRQ := aq (HRP.out i ie rfl)
 clear hwd hq HRP
 generalize mword L c.pc = wd at *
 obtain ⟨wv, we⟩ := wd
 obtain ⟨d, dk, du, de, dL⟩ := p
 obtain ⟨f, fk, fu, fe, fL⟩ := q
 simp only at his hok HDEC HSTA HSTB HRQ
 have HIS := aq his
 have HOK := aq hok
 clear his hok
 go_wp2_with fail
 refine HDEC.out.mono ?_
 rintro e w5 ⟨rfl, hb⟩
 have HB5 := aq (below_step HB4.out hb)
 have HC5 := aq (blk_below HC4.out hb)
 have HMA5 := aq (HMA4.out.below hb)
 have HMB5 := aq (HMB4.out.below hb)
 have HS5 := aq (Nat.le_trans HS4.out hb.size)
 clear hb HB4 HC4 HMA4 HMB4 HS4 HDEC
 go_upto_region 9 with ((with_reducible refine gate_store (t := 51) (p := 15) (v := .tmp 78) rfl ?_); refine wpList_store_mid rfl 51 (.tmp 15) (.tmp 78) rfl w5.heap.size 0 i.v rfl rfl (there_blk (blk_new w5 (.cells INS.zero.v 51)) 0 10 (by decide)) info_inst (inst_one i) ?_)
 obtain ⟨W6, hW, hi6, hbw⟩ := inst_box w5 i
 change Code.wp _ _ _ _ ((w5.alloc (.cells INS.zero.v 51)).setCells w5.heap.size 0 i.v.toList)
 rw [← hW]
 clear hW
 have HI6 := aq hi6
 have HB6 := aq (below_step HB5.out hbw)
 have HC6 := aq (blk_below HC5.out hbw)
 have HMA6 := aq (HMA5.out.below hbw)
 have HMB6 := aq (HMB5.out.below hbw)
 have HS6 := aq (Nat.le_trans HS5.out hbw.size)
 have HNI := aq HS5.out
 clear hbw hi6 HB5 HC5 HMA5 HMB5 HS5
 generalize w5.heap.size = NI at *
 have HRD := aq (fun w (hT : TabW w) => inst_Reads.calls 1000 _ _ _ _ _ _ _ _ _ _ _ w (reads_at 1000 (by decide) i.o i.d i.n i.m i.a i.im i.ms i.sh i.am i.cd ok HIS.out) hT)
 have HLL := aq (rdV_len ok i.o i.d i.n i.m i.a)
 have HNR := aq (fun (h : ie = 0) (hn : ∀ x, x ∈ rdV ok i.o i.d i.n i.m i.a → x ≠ (k : Int)) => show noRead i k from noRead_of (fun hm => by
  obtain ⟨h1, h2⟩ := HOK.out h
  rw [rdV_eq, if_pos h1] at hn
  exact hn _ hm rfl))
 generalize rdV ok i.o i.d i.n i.m i.a = l at *
 obtain ⟨c0, c1_, c2, c3, c4, c5, c6, c7, c8, c9⟩ := cells10_ HI6.out
 go_wp2_with fail
 clear c0 c1_ c2 c3 c4 c5 c6 c7 c8 c9
 refine (HRD.out _ (HT.out.below HB6.out)).mono ?_
 rintro e w7 ⟨v0, rfl, hr, hb⟩
 obtain ⟨B, cB, rfl, hcB, hCB⟩ := Kd.R_reads hr
 have HB7 := aq (below_step HB6.out hb)
 have HC7 := aq (blk_below HC6.out hb)
 have HI7 := aq (blk_below HI6.out hb)
 have HMA7 := aq (HMA6.out.below hb)
 have HMB7 := aq (HMB6.out.below hb)
 have HS7 := aq (Nat.le_trans HS6.out hb.size)
 have HCB := aq hCB
 clear hr hb hcB hCB HB6 HC6 HI6 HMA6 HMB6 HS6 HRD
 go_wp2_with fail
 go_loopg [18] l.length (fun kq v18 wr => ∃ j : Nat, v18 = .int .i64 (j : Int) ∧ j + kq = l.length ∧ Aside0 (∀ x, x ∈ l.take j → x ≠ (k : Int)) ∧ Aside0 (Below w7.heap.size w7 wr))
 case atStart => exact ⟨0, rfl, by omega, ⟨fun x hx => by simp at hx⟩, ⟨Below.refl _ _⟩⟩
 case round =>
  obtain ⟨j, rfl, hik, HNO, HBx⟩ := hrel
  cases gk with
  | zero =>
   obtain rfl : j = l.length := by omega
   clear hik
   have hno := HNO.out
   rw [List.take_length] at hno
   have HRS := aq (HRQ.out (fun h => (HOK.out h).2) (fun h => HNR.out h hno))
   have dl : ¬ l.length < l.length := Nat.lt_irrefl _
   have HB8 := aq (below_step HB7.out HBx.out)
   have HC8 := aq (blk_below HC7.out HBx.out)
   have HI8 := aq (blk_below HI7.out HBx.out)
   have HMA8 := aq (HMA7.out.below HBx.out)
   have HMB8 := aq (HMB7.out.below HBx.out)
   have HS8 := aq (Nat.le_trans HS7.out HBx.out.size)
   clear hno HNO HNR HRQ HLL HCB HB7 HC7 HI7 HMA7 HMB7 HS7 HBx
   go_upto_region 16 with (first | ((with_reducible refine gate_dst (N := 95) rfl ?_); refine wpList_load_mid rfl 27 (.tmp 4) rfl W.heap.size 0 rfl c.l _ (c.range HC8.out) under_cpu rfl info_cpu ?_) | ((with_reducible refine gate_store (t := 27) (p := 19) (v := .tmp 95) rfl ?_); refine wpList_store_mid rfl 27 (.tmp 19) (.tmp 95) rfl wr.heap.size 0 c.a rfl rfl (there_blk (blk_new wr (.cells CPU.zero.a 27)) 0 37 (by decide)) info_cpu c.one ?_))
   obtain ⟨W9, hW, hn9, hbw9⟩ := cpu_box wr c
   change Code.wp _ _ _ _ ((wr.alloc (.cells CPU.zero.a 27)).setCells wr.heap.size 0 c.l)
   rw [← hW]
   clear hW
   have gk : W9.cell? ⟨wr.heap.size, k, none⟩ = some (.int .u64 (c.x k)) := (blk_cell hn9 k).trans (c.get HKK.out)
   have gf := blk_frozen hn9 k
   have hkk := HKK.out
   have HN9 := aq hn9
   have HBW9 := aq hbw9
   clear hn9 hbw9 dl
   generalize hNB : wr.heap.size = NB at *
   go_upto_region 17 with fail
   clear gk gf hkk
   obtain ⟨W10, hW, hn10, hbw⟩ : ∃ W10, W10 = W9.setCell ⟨NB, k, none⟩ (.int .u64 v) ∧ W10.heap[NB]? = some (.cells (c.setX k v).a 27 (0, 0)) ∧ Below NB wr W10 :=
    ⟨_, rfl, blk_put HN9.out k _ (c.set HKK.out v), HBW9.out.setCell (Nat.le_refl _) _⟩
   rw [← hW]
   rw [← hNB] at hbw
   clear hW HN9 HBW9
   have HN10 := aq hn10
   have HB10 := aq (below_step HB8.out hbw)
   have HC10 := aq (blk_below HC8.out hbw)
   have HI10 := aq (blk_below HI8.out hbw)
   have HMA10 := aq (HMA8.out.below hbw)
   have HMB10 := aq (HMB8.out.below hbw)
   have HS10 := aq (Nat.le_trans HS8.out (show NB ≤ W10.heap.size by rw [← hNB]; exact hbw.size))
   have HNB := aq (show w3.heap.size ≤ NB from HS8.out)
   clear hn10 hbw hNB HB8 HC8 HI8 HMA8 HMB8 HS8
   have HST1 := aq (HSTA.out W10 HMA10.out (HT.out.below HB10.out) (Nat.le_trans HS23.out HS10.out))
   go_upto_region 18 with (first | ((with_reducible refine gate_dst (N := 101) rfl ?_); refine wpList_load_mid rfl 27 (.tmp 4) rfl W.heap.size 0 rfl c.l _ (c.range HC10.out) under_cpu rfl info_cpu ?_) | (go_at_call 27; refine (HST1.out).mono ?_; rintro e w11 ⟨rfl, hs, hm⟩; have HS11 := aq hs; clear hs hm) | ((with_reducible refine gate_store (t := 27) (p := 20) (v := .tmp 104) rfl ?_); refine wpList_store_mid rfl 27 (.tmp 20) (.tmp 104) rfl w11.heap.size 0 d.a rfl rfl (there_blk (blk_alloc (blk_new w11 (.cells CPU.zero.a 27)) _) 0 37 (by decide)) info_cpu d.one ?_) | ((with_reducible refine gate_store (t := 55) (p := 21) (v := .tmp 105) rfl ?_); refine wpList_store_mid rfl 55 (.tmp 21) (.tmp 105) rfl (w11.heap.size + 1) 0 (evA dk du) rfl rfl (there_blk (blk_sets_far d.l 0 (Nat.succ_ne_self _) (new_last w11 (.cells CPU.zero.a 27) (.cells (evA 0 0) 55))) 0 2 (by decide)) info_ev (ev_one dk du) ?_))
   obtain ⟨W12, hW, hd12, he12, hbw⟩ := ce_boxes w11 d dk du
   change Code.wp _ _ _ _ ((((w11.alloc (.cells CPU.zero.a 27)).alloc (.cells (evA 0 0) 55)).setCells w11.heap.size 0 d.l).setCells (w11.heap.size + 1) 0 (evA dk du).toList)
   rw [← hW]
   clear hW
   have HB12 := aq (below_step (HS11.out.below _ _ HB10.out HLA.out HB10.out.size) hbw)
   have HC12 := aq (blk_below (HS11.out.block _ _ HC10.out (.inl (by have := HLT.out; omega))) hbw)
   have HI12 := aq (blk_below (HS11.out.block _ _ HI10.out (.inl (by have := HNI.out; have := HS23.out; omega))) hbw)
   have HN12 := aq (blk_below (HS11.out.block _ _ HN10.out (.inl (by have := HNB.out; have := HS23.out; omega))) hbw)
   have HMB12 := aq ((HMB10.out.other HS11.out (.inr (Nat.le_refl _))).below hbw)
   have HS12 := aq (Nat.le_trans HS10.out (Nat.le_trans HS11.out.size hbw.size))
   have HND := aq (show w3.heap.size ≤ w11.heap.size from Nat.le_trans HS10.out HS11.out.size)
   have HNE := aq (blk_lt he12)
   have HD12 := aq hd12
   have HE12 := aq he12
   clear hbw hd12 he12 HST1 HSTA HS11 HB10 HC10 HI10 HN10 HMA10 HMB10 HS10
   generalize w11.heap.size = ND at *
   have HST2 := aq (HSTB.out W12 HMB12.out (HT.out.below HB12.out) HS12.out)
   go_upto_region 19 with (first | ((with_reducible refine gate_dst (N := 108) rfl ?_); refine wpList_load_mid rfl 27 (.tmp 19) rfl NB 0 rfl (c.setX k v).l _ ((c.setX k v).range HN12.out) under_cpu rfl info_cpu ?_) | (go_at_call 27; refine (HST2.out).mono ?_; rintro e w13 ⟨rfl, hs, hm⟩; have HS13 := aq hs; clear hs hm) | ((with_reducible refine gate_store (t := 27) (p := 23) (v := .tmp 111) rfl ?_); refine wpList_store_mid rfl 27 (.tmp 23) (.tmp 111) rfl w13.heap.size 0 f.a rfl rfl (there_blk (blk_alloc (blk_new w13 (.cells CPU.zero.a 27)) _) 0 37 (by decide)) info_cpu f.one ?_) | ((with_reducible refine gate_store (t := 55) (p := 24) (v := .tmp 112) rfl ?_); refine wpList_store_mid rfl 55 (.tmp 24) (.tmp 112) rfl (w13.heap.size + 1) 0 (evA fk fu) rfl rfl (there_blk (blk_sets_far f.l 0 (Nat.succ_ne_self _) (new_last w13 (.cells CPU.zero.a 27) (.cells (evA 0 0) 55))) 0 2 (by decide)) info_ev (ev_one fk fu) ?_))
   obtain ⟨W14, hW, hf14, he14, hbw⟩ := ce_boxes w13 f fk fu
   change Code.wp _ _ _ _ ((((w13.alloc (.cells CPU.zero.a 27)).alloc (.cells (evA 0 0) 55)).setCells w13.heap.size 0 f.l).setCells (w13.heap.size + 1) 0 (evA fk fu).toList)
   rw [← hW]
   clear hW
   have HB14 := aq (below_step (HS13.out.below _ _ HB12.out HLB.out HB12.out.size) hbw)
   have HC14 := aq (blk_below (HS13.out.block _ _ HC12.out (.inl (by have := HLT.out; have := HMS.out; omega))) hbw)
   have HI14 := aq (blk_below (HS13.out.block _ _ HI12.out (.inl (by have := HNI.out; omega))) hbw)
   have HD14 := aq (blk_below (HS13.out.block _ _ HD12.out (.inl (by have := HND.out; omega))) hbw)
   have HE14 := aq (blk_below (HS13.out.block _ _ HE12.out (.inl (by have := HND.out; omega))) hbw)
   have HF14 := aq hf14
   have HG14 := aq he14
   have HNF := aq (show ND + 1 < w13.heap.size from Nat.lt_of_lt_of_le HNE.out HS13.out.size)
   have HWF := aq (show W.heap.size ≤ w13.heap.size from Nat.le_trans HB12.out.size HS13.out.size)
   clear hbw hf14 he14 HST2 HSTB HS13 HB12 HC12 HI12 HN12 HMB12 HS12 HD12 HE12 HNE
   generalize w13.heap.size = NF at *
   obtain ⟨h1, h2, h3, h4⟩ := HRS.out
   subst h1 h2 h3
   have HSM := aq h4
   clear h4 HRS
   have g1 : W14.cell? ⟨ND + 1, 0, none⟩ = some (.int .i64 fk) := (blk_cell HE14.out 0).trans rfl
   have g2 : W14.cell? ⟨ND + 1, 1, none⟩ = some (.int .u64 fu) := (blk_cell HE14.out 1).trans rfl
   have g3 : W14.cell? ⟨NF + 1, 0, none⟩ = some (.int .i64 fk) := (blk_cell HG14.out 0).trans rfl
   have g4 : W14.cell? ⟨NF + 1, 1, none⟩ = some (.int .u64 fu) := (blk_cell HG14.out 1).trans rfl
   by_cases he : fe = 0
   ·obtain ⟨rfl, rfl, hsm⟩ := HSM.out he
    subst he
    obtain ⟨hok, -⟩ := HOK.out rfl
    subst hok
    have HWR := aq (writes_at 1000 (by decide) i.o i.d i.n i.m i.a i.im i.ms i.sh i.am i.cd true HIS.out)
    obtain ⟨-, -, -, -, hsA, hsB⟩ := hsm
    simp only at hsA hsB
    generalize wrV true i.o i.d = wv_ at *
    obtain ⟨dst_, wr_⟩ := wv_
    have HSA := aq hsA
    have HSB := aq hsB
    clear hsA hsB HSM HOK HIS
    obtain ⟨c0, c1_, c2, c3, c4, c5, c6, c7, c8, c9⟩ := cells10_ HI14.out
    go_wp2_with fail
    clear c0 c1_ c2 c3 c4 c5 c6 c7 c8 c9 g1 g2 g3 g4
    refine (inst_Writes.calls 1000 _ _ _ _ _ _ _ _ _ _ _ _ _ HWR.out (HT.out.below HB14.out)).mono ?_
    rintro e w15 ⟨rfl, hb⟩
    have HB15 := aq (below_step HB14.out hb)
    have HC15 := aq (blk_below HC14.out hb)
    have HD15 := aq (blk_below HD14.out hb)
    have HF15 := aq (blk_below HF14.out hb)
    clear hb HB14 HC14 HI14 HD14 HE14 HF14 HG14
    have heq : ∀ w, (binOp .eql 27 (.agg d.l.toArray) (.agg d.l.toArray)).run Tryz.prog w = .ok (.bool true) w := fun w => eq_cpu d w
    have hcase : (wr_ = true ∧ dst_ = (k : Int) ∧ f = d) ∨ ((wr_ = false ∨ (wr_ = true ∧ (dst_ != (k : Int)) = true)) ∧ f = d.setX k v ∧ d.x k = c.x k) := by
     by_cases h : (dst_, wr_) = ((k : Int), true)
     ·have := HSA.out h
      simp only [Prod.mk.injEq] at h
      exact .inl ⟨h.2, h.1, this⟩
     ·refine .inr ⟨?_, HSB.out h⟩
      cases wr_ with
      | false => exact .inl rfl
      | true => exact .inr ⟨rfl, by simpa using h⟩
    clear HSA HSB HWR
    rcases hcase with ⟨rfl, rfl, rfl⟩ | ⟨hwr, rfl, hx⟩
    ·go_wp2_with fail
     refine (stepped_calls _ (HT.out.below HB15.out)).mono ?_
     rintro e w16 ⟨rfl, hb⟩
     have HB16 := aq (below_step HB15.out hb)
     have HD16 := aq (blk_below HD15.out hb)
     have HF16 := aq (blk_below HF15.out hb)
     clear hb
     go_wp2_with (first | ((with_reducible refine gate_dst (N := 175) rfl ?_); refine wpList_load_want (by rfl) 27 (.tmp 20) rfl ND 0 rfl f.l _ (f.range HD16.out) under_cpu rfl info_cpu ?_) | ((with_reducible refine gate_dst (N := 176) rfl ?_); refine wpList_load_want (by rfl) 27 (.tmp 23) rfl NF 0 rfl f.l _ (f.range HF16.out) under_cpu rfl info_cpu ?_))
     go_ret
     exact ⟨rfl, HB16.out⟩
    ·have g1 : w15.cell? ⟨ND, k, none⟩ = some (.int .u64 (c.x k)) := (blk_cell HD15.out k).trans ((d.get HKK.out).trans (by rw [hx]))
     have g2 : w15.cell? ⟨W.heap.size, k, none⟩ = some (.int .u64 (c.x k)) := (blk_cell HC15.out k).trans (c.get HKK.out)
     have g3 : w15.cell? ⟨NF, k, none⟩ = some (.int .u64 v) := (blk_cell HF15.out k).trans (((d.setX k v).get HKK.out).trans (by rw [setX_get]))
     have gf := blk_frozen HF15.out k
     have HX := aq hx
     have hkk := HKK.out
     clear hx
     generalize c.x k = cx at *
     rcases hwr with rfl | ⟨rfl, hdk⟩
     all_goals
      go_wp2_with fail
      go_quiet (fail)
      go_upto_region 28 with fail
      obtain ⟨W16, hW, hf16, hb16⟩ : ∃ W16, W16 = (w15.drewN nq).setCell ⟨NF, k, none⟩ (.int .u64 cx) ∧ W16.heap[NF]? = some (.cells d.a 27 (0, 0)) ∧ Below NF w15 W16 :=
       ⟨_, rfl, blk_put (blk_below HF15.out (pw_below_drewN (Below.refl _ _) nq)) k _ (by rw [CPU.set _ HKK.out, ← HX.out, setX_back]), (pw_below_drewN (Below.refl NF w15) nq).setCell (Nat.le_refl _) _⟩
      rw [← hW]
      clear hW
      have HB16 := aq (HB15.out.trans (hb16.mono HWF.out))
      have HF16 := aq hf16
      have HD16 := aq ((hb16.block ND (by have := HNF.out; omega)).trans HD15.out)
      clear hf16 hb16 g1 g2 g3 gf hkk
      go_wp2_with fail
      refine (stepped_calls _ (HT.out.below HB16.out)).mono ?_
      rintro e w17 ⟨rfl, hb⟩
      have HB17 := aq (below_step HB16.out hb)
      have HD17 := aq (blk_below HD16.out hb)
      have HF17 := aq (blk_below HF16.out hb)
      clear hb
      go_wp2_with (first | ((with_reducible refine gate_dst (N := 175) rfl ?_); refine wpList_load_want (by rfl) 27 (.tmp 20) rfl ND 0 rfl d.l _ (d.range HD17.out) under_cpu rfl info_cpu ?_) | ((with_reducible refine gate_dst (N := 176) rfl ?_); refine wpList_load_want (by rfl) 27 (.tmp 23) rfl NF 0 rfl d.l _ (d.range HF17.out) under_cpu rfl info_cpu ?_))
      go_ret
      exact ⟨rfl, HB17.out⟩
   ·have e1 : (fe == 0) = false := by simpa using he
    have e2 : (fe != 0) = true := by simpa using he
    clear he HSM HC14 HI14 HD14 HF14
    go_wp2_with fail
    clear g1 g2 g3 g4
    refine (stepped_calls _ (HT.out.below HB14.out)).mono ?_
    rintro e w15 ⟨rfl, hb⟩
    have HB15 := aq (below_step HB14.out hb)
    clear hb
    go_wp2
    go_ret
    exact ⟨rfl, HB15.out⟩
  | succ kq =>
   have hj : j < l.length := by omega
   obtain ⟨ad, hA, hcell⟩ := Kd.at_int (Kd.C_below HCB.out HBx.out) (j : Int) (by omega) (by omega)
   subst hA
   rw [Int.toNat_natCast] at hcell
   have hrd : rd l (j : Int) = l[j] := by unfold rd; rw [Int.toNat_natCast]; simp [List.getD, List.getElem?_eq_getElem hj]
   rw [hrd] at hcell
   have e2 : wrap64 ((j : Int) + 1) = ((j + 1 : Nat) : Int) := by have := HLL.out; unfold wrap64; omega
   have HIK := aq hik
   have hj2 : (j : Int) < (l.length : Int) := by omega
   have hj0 : (0 : Int) ≤ (j : Int) := by omega
   have HNX := aq (fun (h : l[j] ≠ (k : Int)) => show ∀ x, x ∈ l.take (j + 1) → x ≠ (k : Int) from fun x hx => by
    rw [List.take_succ_eq_append_getElem hj] at hx
    rcases List.mem_append.1 hx with h1 | h1
    ·exact HNO.out x h1
    ·rw [List.mem_singleton.1 h1]; exact h)
   have hcase : (l[j] == (k : Int)) = true ∨ (l[j] == (k : Int)) = false := by cases l[j] == (k : Int) <;> simp
   clear hik hrd
   generalize hy : l[j] = y at *
   clear hy
   rcases hcase with h1 | h1
   ·go_wp2_with fail
    refine (stepped_calls _ (HT.out.below (below_step HB7.out HBx.out))).mono ?_
    rintro e w8 ⟨rfl, hb⟩
    have HB8 := aq (below_step (below_step HB7.out HBx.out) hb)
    clear hb
    go_wp2
    go_ret
    exact ⟨rfl, HB8.out⟩
   ·go_wp2
    go_roundg kq
    case measure => omega
    case rel => exact ⟨j + 1, by first | rfl | (rw [e2]), by have := HIK.out; omega, ⟨HNX.out (by simpa using h1)⟩, ⟨HBx.out⟩⟩
theorem StepReads_walk (a0 : CPU) (A1 : Option Addr) (c1 : Nat) (l1 : List S61) (a2 a3 : Int) (W : World) (w0 : a0.ok) (hr1 : Kd.C k61 W A1 l1.length l1) (hc1 : l1.length ≤ c1)
  (hg1 : ∀ q, q ∈ l1 → (Lit.int .u64 q.f0).wf = true ∧ (Lit.int .i64 q.f1).wf = true ∧ q.f2.size ≤ maxLen) (w2 : (Lit.int .i64 a2).wf = true) (w3 : (Lit.int .u64 a3).wf = true) (hTab : TabW W) :
  Calls Tryz.prog 6 #[.agg a0.a, .slice A1 l1.length c1, .int .i64 a2, .int .u64 a3] W fun e w' => e = .returned (.bool true) ∧ Below W.heap.size W w' := by
 have hgl : ∀ r, r ∈ l1 → 0 ≤ r.f0 ∧ r.f0 < 18446744073709551616 := fun r hr => by
  have := (hg1 r hr).1
  simp [Lit.wf, IntKind.min, IntKind.max, IntKind.bits, IntKind.signed] at this; omega
 have v01 : 0 ≤ a3 ∧ a3 < 18446744073709551616 := by
  simp [Lit.wf, IntKind.min, IntKind.max, IntKind.bits, IntKind.signed] at w3; omega
 obtain ⟨b, hbig, hlen⟩ := big_at l1
 cases b with
 | true => exact StepReads_early a0 A1 c1 l1 a2 a3 W true hbig hr1 hc1 hTab (.inl rfl)
 | false =>
  by_cases h : a2 < 0 ∨ 30 < a2
  ·exact StepReads_early a0 A1 c1 l1 a2 a3 W false hbig hr1 hc1 hTab (.inr ⟨rfl, h⟩)
  ·by_cases hv : newV l1 = 0
   ·obtain ⟨n, rfl⟩ := Int.eq_ofNat_of_zero_le (show 0 ≤ a2 by omega)
    exact StepReads_main a0 w0 A1 c1 l1 n a3 W hbig hr1 hc1 hTab (hlen rfl) hgl (by omega) v01.1 v01.2 hv
   ·exact StepReads_none a0 A1 c1 l1 a2 a3 W hbig hr1 hc1 hTab (hlen rfl) hgl (by omega) (by omega) hv
end Go.Proofs.YtblnfngigdipcaaGreatDoor.Pure
