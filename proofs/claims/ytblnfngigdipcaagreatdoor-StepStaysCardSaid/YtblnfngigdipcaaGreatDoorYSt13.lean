/- Written for this claim by a program of this session: what the claim uses of lemmas and proved contracts of Go functions. -/
import Derived.Test.YtblnfngigdipcaaGreatDoorYSt12
import Derived.ChangeKeysEq
import Derived.OpenShut
import Derived.ChangeOld
import Derived.SizedLaws
import Derived.Carry
import Derived.Deep.Fields
namespace Go.Proofs.YtblnfngigdipcaaGreatDoor.ST
open Go.RowKit Go.Proofs.YtblnfngigdipcaaGreatDoor.P Go.Proofs.YtblnfngigdipcaaGreatDoorW.PrintWords Go.Proofs.YtblnfngigdipcaaGreatDoorW.PrintLast Go.Proofs.YtblnfngigdipcaaGreatDoorW.PrintMore
open Go.ChangeShapes Go.WideShapes Go.ChangeAt Go.RowKit Go.Deep
set_option linter.unusedVariables false
set_option linter.unusedSimpArgs false
theorem eq_ev (k u : Int) (w : World) : (binOp .eql 55 (.agg #[.int .i64 k, .int .u64 u]) (.agg #[.int .i64 k, .int .u64 u])).run Tryz.prog w = .ok (.bool true) w := by
  simp [go_sem]
theorem cells_u64 : Tryz.prog.cellsOf 22 = 1 := by kernel_rfl
theorem eq_one (v : Int) (w : World) (d : Nat) : (Op.equalIn (d + 1) 22 (.int .u64 v) (.int .u64 v)).run Tryz.prog w = .ok true w := by
  simp [Op.equalIn, run_underlying Tryz.underlying22, Result.andThen]
theorem part_one (xs : Array Value) (i : Nat) (v : Int) (h : xs[i]? = some (.int .u64 v)) (w : World) : (part 22 xs i).run Tryz.prog w = .ok (.int .u64 v) w := by
  simp [part, isAgg, run_underlying Tryz.underlying22, Result.andThen, h]
theorem eq_items (A : Array Value) (d : Nat) (w : World) : ∀ is : List Nat, (∀ i, i ∈ is → ∃ v, A[i]? = some (.int .u64 v)) → (Op.eqItems (d + 1) 22 1 A A is).run Tryz.prog w = .ok true w
  | [], _ => by simp [Op.eqItems]
  | i :: is, h => by
    obtain ⟨v, hv⟩ := h i (by simp)
    have ih := eq_items A d w is (fun j hj => h j (by simp [hj]))
    unfold Op.eqItems
    simp only [Sem.run_bind, Nat.mul_one, part_one A i v hv w, Result.andThen_ok, eq_one, ih]
    simp [ih]
theorem eq_arr (A : Array Value) (h : ∀ i, i < 31 → ∃ v, A[i]? = some (.int .u64 v)) (d : Nat) (w : World) : (Op.equalIn (d + 1 + 1) 23 (.agg A) (.agg A)).run Tryz.prog w = .ok true w := by
  obtain ⟨i, hi⟩ : ∃ i, Tryz.prog.info? 22 = some i := Option.isSome_iff_exists.1 (by kernel_rfl)
  rw [run_equalIn_array w (d + 1) A A Tryz.underlying23 hi, cells_u64]
  exact eq_items A d w _ (fun i hi => h i (by simpa using hi))
theorem eq_cpu (c : CPU) (w : World) : (binOp .eql 27 (.agg c.a) (.agg c.a)).run Tryz.prog w = .ok (.bool true) w := by
  have h := eq_arr (c.l.take 31).toArray (fun i hi => ⟨c.x i, by
    rw [List.getElem?_toArray, List.getElem?_take, if_pos hi]
    have := c.get hi
    rwa [CPU.a, List.getElem?_toArray] at this⟩) 9997 w
  simp only [CPU.l, List.take_succ_cons, List.take_zero] at h
  simp [go_sem, CPU.a, CPU.l, h]
theorem under_cpu' : Tryz.prog.underlying 27 = some (.struct (Tryz.prog.fieldsOf 27)) := by kernel_rfl
theorem fields_cpu : (Tryz.prog.fieldsOf 27).toList.map (fun f => (f.type, f.offset)) = [(23, 0), (22, 31), (22, 32), (25, 33)] := by kernel_rfl
theorem under_fl' : Tryz.prog.underlying 25 = some (.struct (Tryz.prog.fieldsOf 25)) := by kernel_rfl
theorem fields_fl : (Tryz.prog.fieldsOf 25).toList.map (fun f => (f.type, f.offset)) = [(4, 0), (4, 1), (4, 2), (4, 3)] := by kernel_rfl
theorem field_at {fs : Array Field} {L : List (Nat × Nat)} (h : fs.toList.map (fun f => (f.type, f.offset)) = L) (i : Nat) (t o : Nat) (hi : L[i]? = some (t, o)) : ∃ f, fs[i]? = some f ∧ f.type = t ∧ f.offset = o := by
  rw [← h, List.getElem?_map] at hi
  obtain ⟨f, hf, e⟩ := Option.map_eq_some_iff.1 hi
  simp only [Prod.mk.injEq] at e
  exact ⟨f, by rw [← Array.getElem?_toList]; exact hf, e.1, e.2⟩
def u64At (l : List Value) (i : Nat) : Int := match l[i]? with | some (.int .u64 a) => a | _ => 0
def boolAt (l : List Value) (i : Nat) : Bool := match l[i]? with | some (.bool a) => a | _ => false
def cpuOf (l : List Value) : CPU := ⟨fun i => if i < 31 then u64At l i else 0, u64At l 31, u64At l 32, boolAt l 33, boolAt l 34, boolAt l 35, boolAt l 36⟩
theorem one_of_take {l : List Value} {i : Nat} {x : Value} (h : (l.drop i).take 1 = [x]) : l[i]? = some x := by
  have := congrArg (fun k => k[0]?) h
  simp only [List.getElem?_take, List.getElem?_drop, List.getElem?_cons_zero, Nat.add_zero] at this
  simpa using this
theorem cpuOf_l (l : List Value) (hl : l.length = 37) (hx : ∀ i, i < 33 → ∃ a, l[i]? = some (.int .u64 a)) (hb : ∀ i, 33 ≤ i → i < 37 → ∃ b, l[i]? = some (.bool b)) : (cpuOf l).l = l := by
  have ux : ∀ i, i < 33 → l[i]? = some (.int .u64 (u64At l i)) := fun i hi => by
    obtain ⟨a, ha⟩ := hx i hi
    unfold u64At; rw [ha]
  have ub : ∀ i, 33 ≤ i → i < 37 → l[i]? = some (.bool (boolAt l i)) := fun i h1 h2 => by
    obtain ⟨a, ha⟩ := hb i h1 h2
    unfold boolAt; rw [ha]
  apply List.ext_getElem?
  intro i
  by_cases h1 : i < 31
  · have := (cpuOf l).get h1
    rw [CPU.a, List.getElem?_toArray] at this
    rw [this, ux i (by omega)]
    show some (Value.int .u64 (if i < 31 then u64At l i else 0)) = _
    rw [if_pos h1]
  · by_cases h2 : i < 37
    · have : i = 31 ∨ i = 32 ∨ i = 33 ∨ i = 34 ∨ i = 35 ∨ i = 36 := by omega
      rcases this with rfl | rfl | rfl | rfl | rfl | rfl
      · exact (ux 31 (by decide)).symm
      · exact (ux 32 (by decide)).symm
      · exact (ub 33 (by decide) (by decide)).symm
      · exact (ub 34 (by decide) (by decide)).symm
      · exact (ub 35 (by decide) (by decide)).symm
      · exact (ub 36 (by decide) (by decide)).symm
    · rw [List.getElem?_eq_none (by show (37 : Nat) ≤ i; omega), List.getElem?_eq_none (by omega)]
set_option maxRecDepth 100000 in
theorem open_cpu {H : Type} {enc : TypeId × Value → H} {w : World} {base : Nat} {spare : Nat → Bool} {held : Bool} {r : Reach} {b0 : Nat} {v : Value} {d : DataW H} {p : List MemPlace}
    (hv : Value.okWide Tryz.prog w r b0 27 v) (h : DataW.Trod enc Tryz.prog w base spare held 27 v d p) : ∃ c : CPU, v = .agg c.a ∧ c.ok := by
  obtain ⟨cs, rfl, hsz⟩ := okWide_struct under_cpu' hv
  obtain ⟨l⟩ := cs
  have hl : l.length = 37 := by simpa using hsz.trans (show Tryz.prog.cellsOf 27 = 37 by kernel_rfl)
  obtain ⟨fuel, hf⟩ := h
  obtain ⟨xs, n, _, hx, _, hxl, hg⟩ := DataW.trod_struct under_cpu' hf
  have hxl : xs.length = 4 := hxl.trans (by kernel_rfl)
  have get : ∀ (i : Nat), i < 4 → ∃ y, xs[i]? = some y := fun i hi => ⟨xs[i], List.getElem?_eq_getElem (by omega)⟩
  obtain ⟨f0, hf0, t0, o0⟩ := field_at fields_cpu 0 _ _ rfl
  obtain ⟨f1, hf1, t1, o1⟩ := field_at fields_cpu 1 _ _ rfl
  obtain ⟨f2, hf2, t2, o2⟩ := field_at fields_cpu 2 _ _ rfl
  obtain ⟨f3, hf3, t3, o3⟩ := field_at fields_cpu 3 _ _ rfl
  have g0 := hg 0 f0 hf0
  have g1 := hg 1 f1 hf1
  have g2 := hg 2 f2 hf2
  have g3 := hg 3 f3 hf3
  rw [t0, o0, show Tryz.prog.cellsOf 23 = 31 by kernel_rfl] at g0
  rw [t1, o1, cells_u64] at g1
  rw [t2, o2, cells_u64] at g2
  rw [t3, o3, show Tryz.prog.cellsOf 25 = 4 by kernel_rfl] at g3
  obtain ⟨y0, hy0⟩ := get 0 (by decide)
  obtain ⟨y1, hy1⟩ := get 1 (by decide)
  obtain ⟨y2, hy2⟩ := get 2 (by decide)
  obtain ⟨y3, hy3⟩ := get 3 (by decide)
  simp only [Value.cells] at g0 g1 g2 g3
  rw [hy0] at g0
  rw [hy1] at g1
  rw [hy2] at g2
  rw [hy3] at g3
  have un : ∀ (m : Nat) (k : Nat) (q : List Value) (y : DataW H × List MemPlace), (q = (l.drop k).take 1) → DataW.trod enc Tryz.prog w base spare held m 22 q = some y → ∃ a, l[k]? = some (.int .u64 a) ∧ 0 ≤ a ∧ a < 18446744073709551616 := by
    intro m k q y hq hy
    obtain ⟨a, e, _, wf⟩ := DataW.trod_int Tryz.underlying22 hy
    refine ⟨a, one_of_take (by rw [← hq, e]), ?_⟩
    simp [Lit.wf, IntKind.min, IntKind.max, IntKind.bits, IntKind.signed] at wf
    omega
  have hX : ∀ i, i < 31 → ∃ a, l[i]? = some (.int .u64 a) ∧ 0 ≤ a ∧ a < 18446744073709551616 := by
    obtain ⟨zs, m, _, _, _, hzl, hz⟩ := DataW.trod_array Tryz.underlying23 g0
    intro i hi
    have h1 := hz i hi
    rw [cells_u64, Nat.mul_one, List.getElem?_eq_getElem (show i < zs.length by omega)] at h1
    refine un _ i _ _ ?_ h1
    rw [List.drop_zero, List.drop_take, List.take_take]
    congr 1
    omega
  have hS := un _ 31 _ _ rfl g1
  have hP := un _ 32 _ _ rfl g2
  have hF : ∀ i, i < 4 → ∃ b, l[33 + i]? = some (.bool b) := by
    obtain ⟨zs, m, _, _, _, hzl, hz⟩ := DataW.trod_struct under_fl' g3
    have hzl : zs.length = 4 := hzl.trans (by kernel_rfl)
    intro i hi
    have hfi : ([(4, 0), (4, 1), (4, 2), (4, 3)] : List (Nat × Nat))[i]? = some (4, i) := by
      have : i = 0 ∨ i = 1 ∨ i = 2 ∨ i = 3 := by omega
      rcases this with rfl | rfl | rfl | rfl <;> rfl
    obtain ⟨f, hf, tf, of⟩ := field_at fields_fl i _ _ hfi
    have h1 := hz i f hf
    rw [tf, of, show Tryz.prog.cellsOf 4 = 1 by kernel_rfl, List.getElem?_eq_getElem (show i < zs.length by omega)] at h1
    obtain ⟨b, e, _⟩ := DataW.trod_bool Tryz.underlying4 h1
    refine ⟨b, one_of_take ?_⟩
    rw [← e, List.drop_take, List.take_take, List.drop_drop]
    congr 1
    omega
  have hX2 : ∀ i, i < 33 → ∃ a, l[i]? = some (.int .u64 a) ∧ 0 ≤ a ∧ a < 18446744073709551616 := fun i hi => by
    by_cases h1 : i < 31
    · exact hX i h1
    · have : i = 31 ∨ i = 32 := by omega
      rcases this with rfl | rfl
      · exact hS
      · exact hP
  refine ⟨cpuOf l, ?_, ?_⟩
  · rw [CPU.a, cpuOf_l l hl (fun i hi => by obtain ⟨a, h, _⟩ := hX2 i hi; exact ⟨a, h⟩) (fun i h1 h2 => by
      obtain ⟨b, hb⟩ := hF (i - 33) (by omega)
      rw [show 33 + (i - 33) = i by omega] at hb
      exact ⟨b, hb⟩)]
  · have hu : ∀ i, i < 33 → 0 ≤ u64At l i ∧ u64At l i < 18446744073709551616 := fun i hi => by
      obtain ⟨a, h, h2⟩ := hX2 i hi
      unfold u64At; rw [h]; exact h2
    refine ⟨fun i => ?_, hu 31 (by decide), hu 32 (by decide)⟩
    show 0 ≤ (if i < 31 then u64At l i else 0) ∧ (if i < 31 then u64At l i else 0) < 18446744073709551616
    by_cases h1 : i < 31
    · rw [if_pos h1]; exact hu i (by omega)
    · rw [if_neg h1]; omega
theorem put_pc (c : CPU) (n : Int) (st : Bool) (v : Int) : (c.put n st v).pc = c.pc ∧ (c.put n st v).n = c.n ∧ (c.put n st v).z = c.z ∧ (c.put n st v).c = c.c ∧ (c.put n st v).v = c.v := by
  unfold CPU.put CPU.setX
  split
  · exact ⟨rfl, rfl, rfl, rfl, rfl⟩
  · split <;> exact ⟨rfl, rfl, rfl, rfl, rfl⟩
end Go.Proofs.YtblnfngigdipcaaGreatDoor.ST
namespace Go.Proofs.YtblnfngigdipcaaGreatDoor.ST
open Go.RowKit Go.Proofs.YtblnfngigdipcaaGreatDoor.P Go.Proofs.YtblnfngigdipcaaGreatDoorW.PrintWords Go.Proofs.YtblnfngigdipcaaGreatDoorW.PrintLast Go.Proofs.YtblnfngigdipcaaGreatDoorW.PrintMore Go.Proofs.YtblnfngigdipcaaGreatDoor.MW Go.Proofs.YtblnfngigdipcaaGreatDoor.M
set_option linter.unusedVariables false
set_option linter.unusedSimpArgs false
theorem step_err_eq {L : List MP} {c : CPU} (h : (stepF L c).e ≠ 0) : stepF L c = ⟨CPU.zero, 0, 0, (stepF L c).e, L⟩ := by
  unfold stepF at h ⊢
  by_cases he : (mword L c.pc).2 = 0
  · rw [if_pos he] at h ⊢
    by_cases h0 : (decF (mword L c.pc).1).2 = 0
    · rw [if_pos h0] at h ⊢
      generalize (decF (mword L c.pc).1).1 = i at *
      unfold doF at h ⊢
      by_cases hb : 29 ≤ i.o ∧ i.o ≤ 36
      · rw [if_pos hb] at h; exact absurd rfl h
      · rw [if_neg hb] at h ⊢
        by_cases hp : (plF L c i).e = 0
        · rw [if_pos hp] at h; exact absurd rfl h
        · rw [if_neg hp, plF_err hp]
    · rw [if_neg h0]
  · rw [if_neg he]
theorem step_ok_eq {L : List MP} {c : CPU} (h : (stepF L c).e = 0) : (mword L c.pc).2 = 0 ∧ (decF (mword L c.pc).1).2 = 0 ∧ stepF L c = doF L c (decF (mword L c.pc).1).1 := by
  unfold stepF at h ⊢
  by_cases he : (mword L c.pc).2 = 0
  · rw [if_pos he] at h ⊢
    by_cases h0 : (decF (mword L c.pc).1).2 = 0
    · rw [if_pos h0]
      exact ⟨he, h0, rfl⟩
    · rw [if_neg h0] at h; exact absurd h h0
  · rw [if_neg he] at h; exact absurd h he
theorem word_calls {w : World} {mb lo hi : Nat} {L : List MP} (hm : MemOk w mb lo hi L) {c : CPU} (hc : c.ok) : Calls Tryz.prog 25 #[.pointer (some ⟨mb, 0, none⟩), .int .u64 c.pc] w fun e w' => e = .returned (.tuple #[.int .u32 (mword L c.pc).1, .int .i64 (mword L c.pc).2]) ∧ Below w.heap.size w w' :=
  word_at hm c.pc hc.pc.1 hc.pc.2
theorem dec_calls (wd : Int) (h0 : 0 ≤ wd) (h1 : wd < 4294967296) (W : World) (hT : TabW W) : Calls Tryz.prog 26 #[.int .u32 wd] W fun e w' => e = .returned (.tuple #[.agg (decF wd).1.v, .int .i64 (decF wd).2]) ∧ Below W.heap.size W w' :=
  code_Decode.calls 1000 wd _ _ _ _ _ _ _ _ _ _ _ W (decF_ok wd h0 h1).1 hT
theorem inst_box (w : World) (i : INS) : ∃ W, W = (w.alloc (.cells INS.zero.v 51)).setCells w.heap.size 0 i.v.toList ∧ W.heap[w.heap.size]? = some (.cells i.v 51 (0, 0)) ∧ Below w.heap.size w W := by
  have n := blk_sets i.v.toList 0 (blk_new w (.cells INS.zero.v 51))
  have e : sets INS.zero.v 0 i.v.toList = i.v := by simp [sets, INS.v, INS.zero]
  rw [e] at n
  exact ⟨_, rfl, n, below_sets (Nat.le_refl _) _ 0 (below_alloc (Below.refl _ _) _)⟩
theorem ce_boxes (w : World) (c : CPU) (k u : Int) : ∃ W, W = (((w.alloc (.cells CPU.zero.a 27)).alloc (.cells (evA 0 0) 55)).setCells w.heap.size 0 c.l).setCells (w.heap.size + 1) 0 (evA k u).toList ∧
    W.heap[w.heap.size]? = some (.cells c.a 27 (0, 0)) ∧ W.heap[w.heap.size + 1]? = some (.cells (evA k u) 55 (0, 0)) ∧ Below w.heap.size w W := by
  have y4 : ((w.alloc (.cells CPU.zero.a 27)).alloc (.cells (evA 0 0) 55)).heap[w.heap.size]? = some (.cells CPU.zero.a 27 (0, 0)) := blk_alloc (blk_new w _) _
  have y5 := new_last w (.cells CPU.zero.a 27) (.cells (evA 0 0) 55)
  obtain ⟨z4, z5⟩ := two_sets y4 y5 (Nat.succ_ne_self _).symm c k u
  exact ⟨_, rfl, z4, z5, below_sets (Nat.le_succ _) _ 0 (below_sets (Nat.le_refl _) _ 0 (below_alloc (below_alloc (Below.refl _ _) _) _))⟩
end Go.Proofs.YtblnfngigdipcaaGreatDoor.ST
namespace Go.Proofs.YtblnfngigdipcaaGreatDoor.Pure
open Go.RowKit Go.Proofs.YtblnfngigdipcaaGreatDoor.P Go.Proofs.YtblnfngigdipcaaGreatDoorW.PrintWords Go.Proofs.YtblnfngigdipcaaGreatDoorW.PrintLast Go.Proofs.YtblnfngigdipcaaGreatDoorW.PrintMore Go.Proofs.YtblnfngigdipcaaGreatDoor.MW Go.Proofs.YtblnfngigdipcaaGreatDoor.ST Go.Proofs.YtblnfngigdipcaaGreatDoor.M
set_option linter.unusedVariables false
set_option linter.unusedSimpArgs false
def puts (a : Act) : List (Nat × Value) → Act
  | [] => a
  | (n, v) :: l => puts (a.put (some n) v) l
def cutQ (a' : Act) (J : World → Prop) : Exit → Act → World → Prop
  | .normal, b, w' => b = a' ∧ J w'
  | _, _, _ => False
theorem cut_ok {a' b : Act} {J : World → Prop} {w' : World} (h : b = a') (hj : J w') : cutQ a' J .normal b w' := ⟨h, hj⟩
theorem region_cut {P : Program} {c : Code} {Q : Exit → Act → World → Prop} {a : Act} {w : World} (l : List (Nat × Value)) {J : World → Prop} (h : c.wp P (cutQ (puts a l) J) a w) (hq : ∀ w', J w' → Q .normal (puts a l) w') : c.wp P Q a w :=
  Code.wp_mono (fun e b w' hh => by
    cases e with
    | normal => obtain ⟨h1, h2⟩ := hh; subst h1; exact hq w' h2
    | _ => exact hh.elim) h
theorem cpu_box (w : World) (c : CPU) : ∃ W, W = (w.alloc (.cells CPU.zero.a 27)).setCells w.heap.size 0 c.l ∧ W.heap[w.heap.size]? = some (.cells c.a 27 (0, 0)) ∧ Below w.heap.size w W := by
  have n4 := blk_sets c.l 0 (blk_new w (.cells CPU.zero.a 27))
  rw [CPU.sets_] at n4
  exact ⟨_, rfl, n4, below_sets (Nat.le_refl _) _ 0 (below_alloc (Below.refl _ _) _)⟩
set_option maxHeartbeats 4000000 in
set_option maxRecDepth 100000 in
theorem StepStays_big (c : CPU) (A1 : Option Addr) (c1 : Nat) (l1 : List S61) (W : World) (hbig : cleatref07_Big.f 100 l1 = some true) (hr1 : Kd.C k61 W A1 l1.length l1) (hc1 : l1.length ≤ c1) :
    Calls Tryz.prog 5 #[.agg c.a, .slice A1 l1.length c1] W fun e w' => e = .returned (.bool true) ∧ Below W.heap.size W w' := by
  have HBIG := aq (fun w hR => cleatref07_Big.calls 100 A1 c1 l1 true w hR hc1 hbig)
  have HR := aq (Kd.C_below hr1 (below_alloc (Below.refl W.heap.size W) (.cells c.a 27)))
  clear hbig hr1 hc1
  go_enter Tryz.func5, Tryz.ntmps5
  go_wp2_with fail
  refine (HBIG.out _ HR.out).mono ?_
  rintro e w1 ⟨rfl, ⟨n1, rfl⟩⟩
  have HB := aq (pw_below_drewN (below_alloc (Below.refl W.heap.size W) (.cells c.a 27)) n1)
  go_wp2
  go_ret
  exact ⟨rfl, HB.out⟩
set_option maxHeartbeats 4000000 in
set_option maxRecDepth 100000 in
theorem StepStays_none (c : CPU) (A1 : Option Addr) (c1 : Nat) (l1 : List S61) (W : World) (hbig : cleatref07_Big.f 100 l1 = some false) (hr1 : Kd.C k61 W A1 l1.length l1) (hc1 : l1.length ≤ c1) (hTab : TabW W)
    (hl : l1.length ≤ 20) (hgl : ∀ r, r ∈ l1 → 0 ≤ r.f0 ∧ r.f0 < 18446744073709551616) (hv : newV l1 ≠ 0) :
    Calls Tryz.prog 5 #[.agg c.a, .slice A1 l1.length c1] W fun e w' => e = .returned (.bool true) ∧ Below W.heap.size W w' := by
  have HBIG := aq (fun w hR => cleatref07_Big.calls 100 A1 c1 l1 false w hR hc1 hbig)
  have HNEW := aq (fun w (hR : Kd.C k61 w A1 l1.length l1) => (new_at w A1 c1 l1 hR hc1 (by omega) hgl).1 hv)
  have HR := aq (Kd.C_below hr1 (below_alloc (Below.refl W.heap.size W) (.cells c.a 27)))
  have HT := aq hTab
  have hv' : (newV l1 != 0) = true := by simpa using hv
  clear hbig hr1 hc1 hTab hl hgl hv
  generalize newV l1 = v at *
  go_enter Tryz.func5, Tryz.ntmps5
  go_wp2_with fail
  refine (HBIG.out _ HR.out).mono ?_
  rintro e w1 ⟨rfl, ⟨n1, rfl⟩⟩
  have HB := aq (pw_below_drewN (below_alloc (Below.refl W.heap.size W) (.cells c.a 27)) n1)
  have HR1 := aq (Kd.C_below HR.out (pw_below_drewN (Below.refl _ _) n1))
  go_wp2_with fail
  refine (HNEW.out _ HR1.out).mono ?_
  rintro e w2 ⟨rfl, hb⟩
  have HB2 := aq (below_step HB.out hb)
  clear hb
  go_wp2_with fail
  refine (stepped_calls _ (HT.out.below HB2.out)).mono ?_
  rintro e w4 ⟨rfl, hb⟩
  have HB4 := aq (below_step HB2.out hb)
  clear hb
  go_wp2
  go_ret
  exact ⟨rfl, HB4.out⟩
theorem wpList_load_want {P : Program} {ops : Array Oper} {rest : List Oper} {op : Oper} {a : Act} {w : World} {Q : Exit → Act → World → Prop} (hw : Region.wanted op (yielded ops a.tmps) = true) (ty : TypeId) (x : Operand) (ho : op.op = .load ty x)
    (b o : Nat) (hx : a.eval x = .pointer (some ⟨b, o, none⟩)) (cs : List Value) (d : TypeDesc) (hc : w.rangeAt b o cs)
    (hu : P.underlying ty = some d) (hd : d.isRow = true) (hi : (P.info? ty).map (·.size) = some cs.length)
    (h : wpList P ops Q rest (a.put op.dst (.agg cs.toArray)) w) : wpList P ops Q (op :: rest) a w :=
  wpList_step fun K hK => by rw [if_pos hw]; exact wp_load_mid ty x ho b o hx cs d hc hu hd hi (hK _ _ h)
set_option maxHeartbeats 4000000 in
set_option maxRecDepth 100000 in
theorem StepStays_main (c : CPU) (hc : c.ok) (A1 : Option Addr) (c1 : Nat) (l1 : List S61) (W : World) (hbig : cleatref07_Big.f 100 l1 = some false) (hr1 : Kd.C k61 W A1 l1.length l1) (hc1 : l1.length ≤ c1) (hTab : TabW W)
    (hl : l1.length ≤ 20) (hgl : ∀ r, r ∈ l1 → 0 ≤ r.f0 ∧ r.f0 < 18446744073709551616) (hv : newV l1 = 0) :
    Calls Tryz.prog 5 #[.agg c.a, .slice A1 l1.length c1] W fun e w' => e = .returned (.bool true) ∧ Below W.heap.size W w' := by
  have HBIG := aq (fun w hR => cleatref07_Big.calls 100 A1 c1 l1 false w hR hc1 hbig)
  have HNEW := aq (fun w (hR : Kd.C k61 w A1 l1.length l1) => (new_at w A1 c1 l1 hR hc1 (by omega) hgl).2 hv)
  have HR := aq (Kd.C_below hr1 (below_alloc (Below.refl W.heap.size W) (.cells c.a 27)))
  have HC := aq (blk_new W (.cells c.a 27))
  have HRW := aq hr1
  have HT := aq hTab
  have HCO := aq hc
  have HLEN := aq hl
  have HGP := aq (fun r hr => given_pure hv (fun r hr => (hgl r hr).1) r hr)
  have HGL := aq hgl
  have HGOOD := aq (memL_good hv (fun r hr => (hgl r hr).1))
  have HW0 := aq (show 0 < (W.alloc (.cells c.a 27)).heap.size by show 0 < (W.heap.push _).size; rw [Array.size_push]; omega)
  clear hbig hr1 hc1 hTab hl hgl hv hc
  generalize memL l1 = L at *
  go_enter Tryz.func5, Tryz.ntmps5
  go_wp2_with fail
  refine (HBIG.out _ HR.out).mono ?_
  rintro e w1 ⟨rfl, ⟨n1, rfl⟩⟩
  have hb1 := pw_below_drewN (Below.refl (W.alloc (.cells c.a 27)).heap.size (W.alloc (.cells c.a 27))) n1
  have HB := aq (below_step (below_alloc (Below.refl W.heap.size W) (.cells c.a 27)) hb1)
  have HR1 := aq (Kd.C_below HR.out hb1)
  have HC1 := aq (blk_below HC.out hb1)
  have HW1 := aq (Nat.lt_of_lt_of_le HW0.out hb1.size)
  clear hb1
  generalize (W.alloc (.cells c.a 27)).drewN n1 = w1 at *
  clear HR HC HW0
  go_wp2_with fail
  refine (HNEW.out _ HR1.out).mono ?_
  rintro e w2 ⟨rfl, hb, hm⟩
  have HB2 := aq (below_step HB.out hb)
  have HR2 := aq (Kd.C_below HR1.out hb)
  have HC2 := aq (blk_below HC1.out hb)
  have HM2 := aq hm
  have HLA := aq (show W.heap.size ≤ w1.heap.size from HB.out.size)
  have HLT := aq (blk_lt HC1.out)
  clear hb hm HNEW HBIG HR1 HC1 HB
  generalize w1.heap.size = M at *
  have cp := (blk_cell HC2.out 32).trans (show c.a[32]? = some (.int .u64 c.pc) from rfl)
  go_wp2_with fail
  refine (word_calls HM2.out HCO.out).mono ?_
  rintro e w3 ⟨rfl, hb⟩
  have HB3 := aq (below_step HB2.out hb)
  have HR3 := aq (Kd.C_below HR2.out hb)
  have HC3 := aq (blk_below HC2.out hb)
  have HM3 := aq (HM2.out.below hb)
  have HH3 := aq hb.size
  clear hb cp
  have hwd := word_in HGOOD.out c.pc
  have HDEC := aq (dec_calls (mword L c.pc).1 hwd.1 hwd.2 w3 (HT.out.below HB3.out))
  have HST := aq (fun (w : World) (hm : MemOk w M M w2.heap.size L) (hT : TabW w) (ht : w2.heap.size ≤ w.heap.size) => step_at L c w M M w2.heap.size hm HCO.out hT ht HW1.out)
  have herr := fun h => step_err_eq (L := L) (c := c) h
  have hoke := fun h => step_ok_eq (L := L) (c := c) h
  have hdok := (decF_ok (mword L c.pc).1 hwd.1 hwd.2).2
  clear hwd
  generalize stepF L c = p at *
  generalize hq : decF (mword L c.pc).1 = q at *
  generalize mword L c.pc = wd at *
  obtain ⟨i, ie⟩ := q
  obtain ⟨d, k, u, e0, L2⟩ := p
  obtain ⟨wv, we⟩ := wd
  simp only at herr hoke hdok HDEC HST
  have HERR := aq herr
  have HOKE := aq hoke
  have HDOK := aq hdok
  clear herr hoke hdok hq
  go_wp2_with fail
  refine HDEC.out.mono ?_
  rintro e w4 ⟨rfl, hb⟩
  have HB4 := aq (below_step HB3.out hb)
  have HR4 := aq (Kd.C_below HR3.out hb)
  have HC4 := aq (blk_below HC3.out hb)
  have HM4 := aq (HM3.out.below hb)
  have HH4 := aq (Nat.le_trans HH3.out hb.size)
  clear hb HB2 HR2 HC2 HM2 HB3 HR3 HC3 HM3 HH3 HDEC
  go_upto_region 8 with ((with_reducible refine gate_store (t := 51) (p := 9) (v := .tmp 50) rfl ?_); refine wpList_store_mid rfl 51 (.tmp 9) (.tmp 50) rfl w4.heap.size 0 i.v rfl rfl (there_blk (blk_new w4 (.cells INS.zero.v 51)) 0 10 (by decide)) info_inst (inst_one i) ?_)
  obtain ⟨W5, hW, hi5, hbw⟩ := inst_box w4 i
  change Code.wp _ _ _ _ ((w4.alloc (.cells INS.zero.v 51)).setCells w4.heap.size 0 i.v.toList)
  rw [← hW]
  clear hW
  have HI5 := aq hi5
  have HB5 := aq (below_step HB4.out hbw)
  have HR5 := aq (Kd.C_below HR4.out hbw)
  have HC5 := aq (blk_below HC4.out hbw)
  have HM5 := aq (HM4.out.below hbw)
  have HH5 := aq (Nat.le_trans HH4.out hbw.size)
  have HNI := aq (show w2.heap.size ≤ w4.heap.size from HH4.out)
  clear hbw hi5 HB4 HR4 HC4 HM4 HH4
  generalize w4.heap.size = NI at *
  have HSTEP := aq (HST.out W5 HM5.out (HT.out.below HB5.out) HH5.out)
  clear HST
  go_upto_region 9 with (first | ((with_reducible refine gate_dst (N := 53) rfl ?_); refine wpList_load_mid rfl 27 (.tmp 2) rfl W.heap.size 0 rfl c.l _ (c.range HC5.out) under_cpu rfl info_cpu ?_) | (go_at_call 27; refine (HSTEP.out).mono ?_; rintro e w6 ⟨rfl, hs, hm⟩; have HS6 := aq hs; have HM6 := aq hm; clear hs hm) | ((with_reducible refine gate_store (t := 27) (p := 11) (v := .tmp 56) rfl ?_); refine wpList_store_mid rfl 27 (.tmp 11) (.tmp 56) rfl w6.heap.size 0 d.a rfl rfl (there_blk (blk_alloc (blk_new w6 (.cells CPU.zero.a 27)) _) 0 37 (by decide)) info_cpu d.one ?_) | ((with_reducible refine gate_store (t := 55) (p := 12) (v := .tmp 57) rfl ?_); refine wpList_store_mid rfl 55 (.tmp 12) (.tmp 57) rfl (w6.heap.size + 1) 0 (evA k u) rfl rfl (there_blk (blk_sets_far d.l 0 (Nat.succ_ne_self _) (new_last w6 (.cells CPU.zero.a 27) (.cells (evA 0 0) 55))) 0 2 (by decide)) info_ev (ev_one k u) ?_))
  obtain ⟨W7, hW, hd7, hk7, hbw⟩ := ce_boxes w6 d k u
  change Code.wp _ _ _ _ ((((w6.alloc (.cells CPU.zero.a 27)).alloc (.cells (evA 0 0) 55)).setCells w6.heap.size 0 d.l).setCells (w6.heap.size + 1) 0 (evA k u).toList)
  rw [← hW]
  clear hW
  have HB7 := aq (below_step (HS6.out.below _ _ HB5.out HLA.out HB5.out.size) hbw)
  have HM7 := aq (HM6.out.below hbw)
  have HC7 := aq (blk_below (HS6.out.block _ _ HC5.out (.inl (by have := HLT.out; omega))) hbw)
  have HI7 := aq (blk_below (HS6.out.block _ _ HI5.out (.inl (by have := HNI.out; omega))) hbw)
  have HD7 := aq hd7
  have HK7 := aq hk7
  clear hbw hd7 hk7 HSTEP HS6 HM6 HC5 HI5 HB5 HR5 HM5 HH5
  generalize w6.heap.size = ND at *
  generalize w2.heap.size = hi at *
  by_cases he : e0 = 0
  · obtain ⟨rfl, rfl, hp⟩ := HOKE.out he
    obtain ⟨hok, his⟩ := HDOK.out rfl
    have hst := do_stays L c i hok (by rw [← hp]; exact he)
    rw [← hp] at hst
    subst he
    simp only at hst
    obtain ⟨⟨hx, hsp⟩, hpc, hkv⟩ := hst
    have hwr := writes_at 1000 (by decide) i.o i.d i.n i.m i.a i.im i.ms i.sh i.am i.cd true his
    generalize wrV true i.o i.d = wv_ at *
    obtain ⟨dst_, wr_⟩ := wv_
    have HWR := aq hwr
    have HX := aq hx
    have HSP := aq hsp
    have HPC := aq hpc
    have HKV := aq hkv
    clear hwr hx hsp hpc hkv hp his hok HOKE HERR HDOK
    obtain ⟨c0, c1_, c2, c3, c4, c5, c6, c7, c8, c9⟩ := cells10_ HI7.out
    go_wp2_with fail
    clear c0 c1_ c2 c3 c4 c5 c6 c7 c8 c9
    refine (inst_Writes.calls 1000 _ _ _ _ _ _ _ _ _ _ _ _ _ HWR.out (HT.out.below HB7.out)).mono ?_
    rintro e w8 ⟨rfl, hb⟩
    have HB8 := aq (below_step HB7.out hb)
    have HC8 := aq (blk_below HC7.out hb)
    have HI8 := aq (blk_below HI7.out hb)
    have HD8 := aq (blk_below HD7.out hb)
    have HK8 := aq (blk_below HK7.out hb)
    clear hb HB7 HC7 HI7 HD7 HK7 HM7
    go_wp2_with fail
    go_loopg [20] 31 (fun kq v20 wr => ∃ j : Nat, v20 = .int .i64 (j : Int) ∧ j + kq = 31 ∧ Aside0 (Below w8.heap.size w8 wr))
    case atStart => exact ⟨0, rfl, by omega, ⟨Below.refl _ _⟩⟩
    case round =>
      obtain ⟨j, rfl, hik, HBx⟩ := hrel
      cases gk with
      | zero =>
        obtain rfl : j = 31 := by omega
        clear hik
        have HB9 := aq (below_step HB8.out HBx.out)
        have HC9 := aq (blk_below HC8.out HBx.out)
        have HI9 := aq (blk_below HI8.out HBx.out)
        have HD9 := aq (blk_below HD8.out HBx.out)
        have HK9 := aq (blk_below HK8.out HBx.out)
        clear HB8 HC8 HI8 HD8 HK8 HBx HX
        have g1 : wr.cell? ⟨NI, 0, none⟩ = some (.int .i64 i.o) := (blk_cell HI9.out 0).trans rfl
        go_wp2_with fail
        clear g1
        refine (inst_Shape.calls i.o _ _ (shape_at i.o)).mono ?_
        rintro e w10 ⟨rfl, hb⟩
        have HB10 := aq (below_step HB9.out hb)
        have HC10 := aq (blk_below HC9.out hb)
        have HI10 := aq (blk_below HI9.out hb)
        have HD10 := aq (blk_below HD9.out hb)
        have HK10 := aq (blk_below HK9.out hb)
        clear hb HB9 HC9 HI9 HD9 HK9
        go_wp2_with fail
        refine (stepped_calls _ (HT.out.below HB10.out)).mono ?_
        rintro e w11 ⟨rfl, hb⟩
        have HB11 := aq (below_step HB10.out hb)
        have g1 : w11.cell? ⟨ND, 31, none⟩ = some (.int .u64 d.sp) := (blk_cell (blk_below HD10.out hb) 31).trans rfl
        have g2 : w11.cell? ⟨W.heap.size, 31, none⟩ = some (.int .u64 c.sp) := (blk_cell (blk_below HC10.out hb) 31).trans rfl
        have g3 : w11.cell? ⟨ND, 32, none⟩ = some (.int .u64 d.pc) := (blk_cell (blk_below HD10.out hb) 32).trans rfl
        have g4 : w11.cell? ⟨W.heap.size, 32, none⟩ = some (.int .u64 c.pc) := (blk_cell (blk_below HC10.out hb) 32).trans rfl
        have g5 : w11.cell? ⟨W.heap.size, 0, none⟩ = some (.int .u64 (c.x 0)) := (blk_cell (blk_below HC10.out hb) 0).trans (c.get (by decide))
        have g6 : w11.cell? ⟨NI, 0, none⟩ = some (.int .i64 i.o) := (blk_cell (blk_below HI10.out hb) 0).trans rfl
        have g7 : w11.cell? ⟨ND + 1, 0, none⟩ = some (.int .i64 k) := (blk_cell (blk_below HK10.out hb) 0).trans rfl
        have g8 : w11.cell? ⟨ND + 1, 1, none⟩ = some (.int .u64 u) := (blk_cell (blk_below HK10.out hb) 1).trans rfl
        clear hb HB10 HC10 HI10 HD10 HK10
        have hA : (d.sp == c.sp) = true ∨ ((d.sp == c.sp) = false ∧ dst_ = 31 ∧ wr_ = true) := by
          by_cases h : d.sp = c.sp
          · exact .inl (by simpa using h)
          · rcases HSP.out with h1 | h1
            · exact absurd h1 h
            · simp only [Prod.mk.injEq] at h1
              exact .inr ⟨by simpa using h, h1.1, h1.2⟩
        have hC : (k == 0) = true ∨ ((k == 0) = false ∧ i.o = 37 ∧ u = c.x 0) := by
          by_cases h : k = 0
          · exact .inl (by simpa using h)
          · rcases HKV.out with h1 | h1
            · exact absurd h1 h
            · exact .inr ⟨by simpa using h, h1.1, h1.2⟩
        have hP : (11 ≤ shapeN i.o ∧ shapeN i.o ≤ 13) ∨ (¬ (11 ≤ shapeN i.o ∧ shapeN i.o ≤ 13) ∧ ((i.o == 32) = true ∨ ((i.o == 32) = false ∧ (i.o == 33) = true) ∨ ((i.o == 32) = false ∧ (i.o == 33) = false ∧ d.pc = IntKind.u64.wrap (c.pc + 4)))) := by
          by_cases h : 11 ≤ shapeN i.o ∧ shapeN i.o ≤ 13
          · exact .inl h
          · refine .inr ⟨h, ?_⟩
            by_cases h2 : i.o = 32
            · exact .inl (by simpa using h2)
            · by_cases h3 : i.o = 33
              · exact .inr (.inl ⟨by simpa using h2, by simpa using h3⟩)
              · rcases HPC.out with h1 | h1 | h1 | h1
                · exact absurd h1 h
                · exact absurd h1 h2
                · exact absurd h1 h3
                · exact .inr (.inr ⟨by simpa using h2, by simpa using h3, h1⟩)
        have hS : (decide (((shapeN i.o : Nat) : Int) ≥ 11) = true ∧ decide (((shapeN i.o : Nat) : Int) ≤ 13) = true) ∨ decide (((shapeN i.o : Nat) : Int) ≥ 11) = false ∨ (decide (((shapeN i.o : Nat) : Int) ≥ 11) = true ∧ decide (((shapeN i.o : Nat) : Int) ≤ 13) = false) := by
          by_cases h1 : 11 ≤ shapeN i.o
          · by_cases h2 : shapeN i.o ≤ 13
            · exact .inl ⟨decide_eq_true (by omega), decide_eq_true (by omega)⟩
            · exact .inr (.inr ⟨decide_eq_true (by omega), decide_eq_false (by omega)⟩)
          · exact .inr (.inl (decide_eq_false (by omega)))
        have hBB : (decide (((shapeN i.o : Nat) : Int) ≥ 11) = true ∧ decide (((shapeN i.o : Nat) : Int) ≤ 13) = true) ∨
            ((decide (((shapeN i.o : Nat) : Int) ≥ 11) = false ∨ (decide (((shapeN i.o : Nat) : Int) ≥ 11) = true ∧ decide (((shapeN i.o : Nat) : Int) ≤ 13) = false)) ∧
              ((i.o == 32) = true ∨ ((i.o == 32) = false ∧ (i.o == 33) = true) ∨ ((i.o == 32) = false ∧ (i.o == 33) = false ∧ d.pc = IntKind.u64.wrap (c.pc + 4)))) := by
          rcases hP with h | ⟨h, h2⟩
          · exact .inl ⟨decide_eq_true (by omega), decide_eq_true (by omega)⟩
          · rcases hS with ⟨h3, h4⟩ | h3 | h3
            · exact absurd ⟨by have := of_decide_eq_true h3; omega, by have := of_decide_eq_true h4; omega⟩ h
            · exact .inr ⟨.inl h3, h2⟩
            · exact .inr ⟨.inr h3, h2⟩
        clear hS hP HSP HPC HKV
        generalize ((shapeN i.o : Nat) : Int) = sh at *
        generalize i.o = op at *
        generalize c.x 0 = cx0 at *
        generalize d.pc = dpc at *
        generalize c.pc = cpc at *
        generalize d.sp = dsp at *
        generalize c.sp = csp at *
        rcases hBB with ⟨b1, b2⟩ | ⟨b1 | ⟨b1, b2⟩, b3 | ⟨b3, b4⟩ | ⟨b3, b4, rfl⟩⟩
        all_goals rcases hA with a1 | ⟨a1, rfl, rfl⟩
        all_goals rcases hC with k1 | ⟨k1, rfl, rfl⟩
        all_goals
          go_wp2
          go_ret
          exact ⟨rfl, HB11.out⟩
      | succ kq =>
        have hj : j < 31 := by omega
        have g1 : wr.cell? ⟨ND, j, none⟩ = some (.int .u64 (d.x j)) := (blk_cell (blk_below HD8.out HBx.out) j).trans (d.get hj)
        have g2 : wr.cell? ⟨W.heap.size, j, none⟩ = some (.int .u64 (c.x j)) := (blk_cell (blk_below HC8.out HBx.out) j).trans (c.get hj)
        have e2 : wrap64 ((j : Int) + 1) = ((j + 1 : Nat) : Int) := by unfold wrap64; omega
        have HIK := aq hik
        have hcase : (d.x j != c.x j) = false ∨ ((d.x j != c.x j) = true ∧ dst_ = (j : Int) ∧ wr_ = true) := by
          by_cases h : d.x j = c.x j
          · exact .inl (by simpa using h)
          · have := HX.out j hj h
            simp only [Prod.mk.injEq] at this
            exact .inr ⟨by simpa using h, this.1, this.2⟩
        clear hik
        generalize d.x j = dx at *
        generalize c.x j = cx at *
        rcases hcase with hc1 | ⟨hc1, rfl, rfl⟩
        all_goals
          go_wp2_with fail
          go_quiet (fail)
          go_wp2
          go_roundg kq
          case measure => omega
          case rel => exact ⟨j + 1, by first | rfl | (rw [e2]), by have := HIK.out; omega, ⟨pw_below_drewN HBx.out _⟩⟩
  · obtain ⟨hd0, hk0, hu0, hL0⟩ : d = CPU.zero ∧ k = 0 ∧ u = 0 ∧ L2 = L := by have := HERR.out he; simp only [PL.mk.injEq] at this; exact ⟨this.1, this.2.1, this.2.2.1, this.2.2.2.2⟩
    subst hk0 hu0 hL0
    have de : (e0 != 0) = true := by simpa using he
    have HDZ := aq hd0
    clear hd0 he HERR HOKE HDOK
    go_upto_region 10 with fail
    refine wp_region_lit ?_
    refine build_cpu0 rfl rfl ?_
    go_upto_region 11 with ((with_reducible refine gate_store (t := 27) (p := 14) (v := .tmp 61) rfl ?_); refine wpList_store_mid rfl 27 (.tmp 14) (.tmp 61) rfl W7.heap.size 0 CPU.zero.a rfl rfl (there_blk (blk_new W7 (.cells CPU.zero.a 27)) 0 37 (by decide)) info_cpu CPU.zero.one ?_)
    obtain ⟨W8, hW, hz8, hbw⟩ := cpu_box W7 CPU.zero
    change Code.wp _ _ _ _ ((W7.alloc (.cells CPU.zero.a 27)).setCells W7.heap.size 0 CPU.zero.l)
    rw [← hW]
    clear hW
    rw [← HDZ.out] at hz8
    have HZ8 := aq hz8
    have HB8 := aq (below_step HB7.out hbw)
    have HM8 := aq (HM7.out.below hbw)
    have HD8 := aq (blk_below HD7.out hbw)
    have HK8 := aq (blk_below HK7.out hbw)
    clear hz8 hbw HB7 HM7 HD7 HK7 HDZ HC7 HI7
    generalize W7.heap.size = NZ at *
    go_wp2_with fail
    go_loopg [15] l1.length (fun kq v15 wr => ∃ j : Nat, v15 = .int .i64 (j : Int) ∧ j + kq = l1.length ∧ Aside0 (Below W8.heap.size W8 wr))
    case atStart => exact ⟨0, rfl, by omega, ⟨Below.refl _ _⟩⟩
    case round =>
      obtain ⟨j, rfl, hik, HBx⟩ := hrel
      cases gk with
      | zero =>
        obtain rfl : j = l1.length := by omega
        clear hik
        have d1 : ¬ l1.length < l1.length := Nat.lt_irrefl _
        have HB9 := aq (below_step HB8.out HBx.out)
        have HD9 := aq (blk_below HD8.out HBx.out)
        have HK9 := aq (blk_below HK8.out HBx.out)
        have HZ9 := aq (blk_below HZ8.out HBx.out)
        clear HB8 HD8 HK8 HZ8 HBx
        have heq : ∀ w, (binOp .eql 27 (.agg d.l.toArray) (.agg d.l.toArray)).run Tryz.prog w = .ok (.bool true) w := fun w => eq_cpu d w
        have hev := fun w => eq_ev 0 0 w
        go_wp2_with fail
        refine (stepped_calls _ (HT.out.below HB9.out)).mono ?_
        rintro e w10 ⟨rfl, hb⟩
        have HB10 := aq (below_step HB9.out hb)
        have HD10 := aq (blk_below HD9.out hb)
        have HZ10 := aq (blk_below HZ9.out hb)
        have c0 := (blk_cell (blk_below HK9.out hb) 0).trans (show (evA 0 0)[0]? = some (.int .i64 0) from rfl)
        have c1_ := (blk_cell (blk_below HK9.out hb) 1).trans (show (evA 0 0)[1]? = some (.int .u64 0) from rfl)
        clear hb HB9 HD9 HK9 HZ9
        go_wp2_with (first | ((with_reducible refine gate_dst (N := 97) rfl ?_); refine wpList_load_want (by rfl) 27 (.tmp 11) rfl ND 0 rfl d.l _ (d.range HD10.out) under_cpu rfl info_cpu ?_) | ((with_reducible refine gate_dst (N := 98) rfl ?_); refine wpList_load_want (by rfl) 27 (.tmp 14) rfl NZ 0 rfl d.l _ (d.range HZ10.out) under_cpu rfl info_cpu ?_))
        go_ret
        exact ⟨rfl, HB10.out⟩
      | succ kq =>
        have hj : j < l1.length := by omega
        have HIK := aq hik
        have e2 : wrap64 ((j : Int) + 1) = ((j + 1 : Nat) : Int) := by have := HLEN.out; unfold wrap64; omega
        have hMx := HM8.out.below HBx.out
        have hR := Kd.C_below HRW.out (below_step HB8.out HBx.out)
        have hmem : rd_T61 l1 (j : Int) ∈ l1 := by
          unfold rd_T61
          rw [Int.toNat_natCast]
          simp [List.getD, List.getElem?_eq_getElem hj, List.getElem_mem]
        have hp := (HGP.out _ hmem).1
        have hg := HGL.out _ hmem
        obtain ⟨ad, hA0, f0, f1, f2⟩ := at_T61 hR (j : Int) (by omega) (by omega)
        subst hA0
        rw [Int.toNat_natCast] at f0 f1 f2
        obtain ⟨r0, r1, r2, hrd⟩ : ∃ r0 r1 r2, rd_T61 l1 (j : Int) = ⟨r0, r1, r2⟩ := ⟨_, _, _, rfl⟩
        rw [hrd] at f0 f1 f2 hp hg
        have HRD := aq hrd
        clear hrd hmem
        simp only at hp hg f0 f1 f2
        have HTX := aq (fun (w : World) (h : MemOk w M M hi L2) => text_at h r0 r2.size hg.1 hg.2)
        rw [hp] at HTX
        have HMx := aq hMx
        have HBx2 := aq (below_step (Below.refl W8.heap.size W8) HBx.out)
        clear hMx hR hp hg hik f1
        generalize hn : l1.length = n at *
        go_wp2_with fail
        refine region_cut [(69, .pointer (some ⟨M, 0, none⟩)), (70, .slice (some ad) n c1), (71, .int .i64 j), (72, .pointer (some (ad.add (j * 3)))), (73, .pointer (some (ad.add (j * 3)))), (74, .int .u64 r0), (75, .slice (some ad) n c1), (76, .int .i64 j), (77, .pointer (some (ad.add (j * 3)))), (78, .pointer (some ⟨(ad.add (j * 3)).block, (ad.add (j * 3)).off + 2, none⟩)), (79, .string r2), (80, .int .i64 r2.size), (81, .tuple #[.string r2, .int .i64 0]), (68, .tuple #[.string r2, .int .i64 0]), (82, .string r2), (83, .int .i64 0), (16, .string r2), (17, .int .i64 0)] (J := fun w' => Below W8.heap.size W8 w') ?h ?q
        case h =>
          go_region_with (go_at_call 28; refine (HTX.out _ (HMx.out.below (by repeat (first | exact Below.refl _ _ | apply pw_below_drewN | apply below_drew1 | apply below_drew)))).mono ?_; rintro e w9 ⟨rfl, hb⟩; have HB9 := aq (below_step (show Below W8.heap.size W8 _ from by repeat (first | exact HBx2.out | apply pw_below_drewN | apply below_drew1 | apply below_drew)) hb); clear hb)
          all_goals refine cut_ok ?_ HB9.out
          all_goals simp only [puts, List.getElem_toArray, List.getElem_cons_succ, List.getElem_cons_zero, Act.put, List.setIfInBounds_toArray, List.set_cons_zero, List.set_cons_succ]
        rintro w9 hb
        have HB9 := aq hb
        simp only [puts, List.getElem_toArray, List.getElem_cons_succ, List.getElem_cons_zero, Act.put, List.setIfInBounds_toArray, List.set_cons_zero, List.set_cons_succ]
        have hR := Kd.C_below HRW.out (below_step HB8.out hb)
        obtain ⟨ad2, hA2, g0, g1, g2⟩ := at_T61 hR (j : Int) (by omega) (by omega)
        obtain rfl := Option.some.inj hA2
        rw [Int.toNat_natCast] at g0 g1 g2
        rw [HRD.out] at g0 g1 g2
        clear hb hR f0 f2 g0 g1 hA2
        go_wp2
        go_roundg kq
        case measure => omega
        case rel => exact ⟨j + 1, by first | rfl | (rw [e2]), by have := HIK.out; omega, ⟨HB9.out⟩⟩
theorem StepStays_walk (a0 : CPU) (A1 : Option Addr) (c1 : Nat) (l1 : List S61) (W : World) (w0 : a0.ok) (hr1 : Kd.C k61 W A1 l1.length l1) (hc1 : l1.length ≤ c1)
    (hg1 : ∀ q, q ∈ l1 → (Lit.int .u64 q.f0).wf = true ∧ (Lit.int .i64 q.f1).wf = true ∧ q.f2.size ≤ maxLen) (hTab : TabW W) :
    Calls Tryz.prog 5 #[.agg a0.a, .slice A1 l1.length c1] W fun e w' => e = .returned (.bool true) ∧ Below W.heap.size W w' := by
  have hgl : ∀ r, r ∈ l1 → 0 ≤ r.f0 ∧ r.f0 < 18446744073709551616 := fun r hr => by
    have := (hg1 r hr).1
    simp [Lit.wf, IntKind.min, IntKind.max, IntKind.bits, IntKind.signed] at this; omega
  obtain ⟨b, hbig, hlen⟩ := big_at l1
  cases b with
  | true => exact StepStays_big a0 A1 c1 l1 W hbig hr1 hc1
  | false =>
    by_cases hv : newV l1 = 0
    · exact StepStays_main a0 w0 A1 c1 l1 W hbig hr1 hc1 hTab (hlen rfl) hgl hv
    · exact StepStays_none a0 A1 c1 l1 W hbig hr1 hc1 hTab (hlen rfl) hgl hv
end Go.Proofs.YtblnfngigdipcaaGreatDoor.Pure
