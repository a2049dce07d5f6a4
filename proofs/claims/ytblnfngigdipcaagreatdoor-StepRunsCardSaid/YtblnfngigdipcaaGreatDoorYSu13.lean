/- Written for this claim by a program of this session: what the claim uses of lemmas and proved contracts of Go functions. -/
import Derived.Test.YtblnfngigdipcaaGreatDoorYSu12
import Derived.ChangeKeysEq
import Derived.OpenShut
import Derived.ChangeOld
import Derived.SizedLaws
import Derived.Carry
import Derived.Deep.Fields
namespace Go.Proofs.YtblnfngigdipcaaGreatDoor.ST
open Go.RowKit Go.Proofs.YtblnfngigdipcaaGreatDoor.P Go.Proofs.YtblnfngigdipcaaGreatDoorW.PrintWords Go.Proofs.YtblnfngigdipcaaGreatDoorW.PrintLast Go.Proofs.YtblnfngigdipcaaGreatDoorW.PrintMore
open Go.ChangeShapes Go.WideShapes Go.ChangeAt Go.RowKit Go.Deep
set_option linter.unusedVariables false
set_option linter.unusedSimpArgs false
theorem cells_u64 : Tryz.prog.cellsOf 22 = 1 := by kernel_rfl
theorem eq_one (v : Int) (w : World) (d : Nat) : (Op.equalIn (d + 1) 22 (.int .u64 v) (.int .u64 v)).run Tryz.prog w = .ok true w := by
  simp [Op.equalIn, run_underlying Tryz.underlying22, Result.andThen]
theorem part_one (xs : Array Value) (i : Nat) (v : Int) (h : xs[i]? = some (.int .u64 v)) (w : World) : (part 22 xs i).run Tryz.prog w = .ok (.int .u64 v) w := by
  simp [part, isAgg, run_underlying Tryz.underlying22, Result.andThen, h]
theorem eq_items (A : Array Value) (d : Nat) (w : World) : ∀ is : List Nat, (∀ i, i ∈ is → ∃ v, A[i]? = some (.int .u64 v)) → (Op.eqItems (d + 1) 22 1 A A is).run Tryz.prog w = .ok true w
  | [], _ => by simp [Op.eqItems]
  | i :: is, h => by
    obtain ⟨v, hv⟩ := h i (by simp)
    have ih := eq_items A d w is (fun j hj => h j (by simp [hj]))
    unfold Op.eqItems
    simp only [Sem.run_bind, Nat.mul_one, part_one A i v hv w, Result.andThen_ok, eq_one, ih]
    simp [ih]
theorem eq_arr (A : Array Value) (h : ∀ i, i < 31 → ∃ v, A[i]? = some (.int .u64 v)) (d : Nat) (w : World) : (Op.equalIn (d + 1 + 1) 23 (.agg A) (.agg A)).run Tryz.prog w = .ok true w := by
  obtain ⟨i, hi⟩ : ∃ i, Tryz.prog.info? 22 = some i := Option.isSome_iff_exists.1 (by kernel_rfl)
  rw [run_equalIn_array w (d + 1) A A Tryz.underlying23 hi, cells_u64]
  exact eq_items A d w _ (fun i hi => h i (by simpa using hi))
theorem eq_cpu (c : CPU) (w : World) : (binOp .eql 27 (.agg c.a) (.agg c.a)).run Tryz.prog w = .ok (.bool true) w := by
  have h := eq_arr (c.l.take 31).toArray (fun i hi => ⟨c.x i, by
    rw [List.getElem?_toArray, List.getElem?_take, if_pos hi]
    have := c.get hi
    rwa [CPU.a, List.getElem?_toArray] at this⟩) 9997 w
  simp only [CPU.l, List.take_succ_cons, List.take_zero] at h
  simp [go_sem, CPU.a, CPU.l, h]
theorem under_cpu' : Tryz.prog.underlying 27 = some (.struct (Tryz.prog.fieldsOf 27)) := by kernel_rfl
theorem fields_cpu : (Tryz.prog.fieldsOf 27).toList.map (fun f => (f.type, f.offset)) = [(23, 0), (22, 31), (22, 32), (25, 33)] := by kernel_rfl
theorem under_fl' : Tryz.prog.underlying 25 = some (.struct (Tryz.prog.fieldsOf 25)) := by kernel_rfl
theorem fields_fl : (Tryz.prog.fieldsOf 25).toList.map (fun f => (f.type, f.offset)) = [(4, 0), (4, 1), (4, 2), (4, 3)] := by kernel_rfl
theorem field_at {fs : Array Field} {L : List (Nat × Nat)} (h : fs.toList.map (fun f => (f.type, f.offset)) = L) (i : Nat) (t o : Nat) (hi : L[i]? = some (t, o)) : ∃ f, fs[i]? = some f ∧ f.type = t ∧ f.offset = o := by
  rw [← h, List.getElem?_map] at hi
  obtain ⟨f, hf, e⟩ := Option.map_eq_some_iff.1 hi
  simp only [Prod.mk.injEq] at e
  exact ⟨f, by rw [← Array.getElem?_toList]; exact hf, e.1, e.2⟩
def u64At (l : List Value) (i : Nat) : Int := match l[i]? with | some (.int .u64 a) => a | _ => 0
def boolAt (l : List Value) (i : Nat) : Bool := match l[i]? with | some (.bool a) => a | _ => false
def cpuOf (l : List Value) : CPU := ⟨fun i => if i < 31 then u64At l i else 0, u64At l 31, u64At l 32, boolAt l 33, boolAt l 34, boolAt l 35, boolAt l 36⟩
theorem one_of_take {l : List Value} {i : Nat} {x : Value} (h : (l.drop i).take 1 = [x]) : l[i]? = some x := by
  have := congrArg (fun k => k[0]?) h
  simp only [List.getElem?_take, List.getElem?_drop, List.getElem?_cons_zero, Nat.add_zero] at this
  simpa using this
theorem cpuOf_l (l : List Value) (hl : l.length = 37) (hx : ∀ i, i < 33 → ∃ a, l[i]? = some (.int .u64 a)) (hb : ∀ i, 33 ≤ i → i < 37 → ∃ b, l[i]? = some (.bool b)) : (cpuOf l).l = l := by
  have ux : ∀ i, i < 33 → l[i]? = some (.int .u64 (u64At l i)) := fun i hi => by
    obtain ⟨a, ha⟩ := hx i hi
    unfold u64At; rw [ha]
  have ub : ∀ i, 33 ≤ i → i < 37 → l[i]? = some (.bool (boolAt l i)) := fun i h1 h2 => by
    obtain ⟨a, ha⟩ := hb i h1 h2
    unfold boolAt; rw [ha]
  apply List.ext_getElem?
  intro i
  by_cases h1 : i < 31
  · have := (cpuOf l).get h1
    rw [CPU.a, List.getElem?_toArray] at this
    rw [this, ux i (by omega)]
    show some (Value.int .u64 (if i < 31 then u64At l i else 0)) = _
    rw [if_pos h1]
  · by_cases h2 : i < 37
    · have : i = 31 ∨ i = 32 ∨ i = 33 ∨ i = 34 ∨ i = 35 ∨ i = 36 := by omega
      rcases this with rfl | rfl | rfl | rfl | rfl | rfl
      · exact (ux 31 (by decide)).symm
      · exact (ux 32 (by decide)).symm
      · exact (ub 33 (by decide) (by decide)).symm
      · exact (ub 34 (by decide) (by decide)).symm
      · exact (ub 35 (by decide) (by decide)).symm
      · exact (ub 36 (by decide) (by decide)).symm
    · rw [List.getElem?_eq_none (by show (37 : Nat) ≤ i; omega), List.getElem?_eq_none (by omega)]
set_option maxRecDepth 100000 in
theorem open_cpu {H : Type} {enc : TypeId × Value → H} {w : World} {base : Nat} {spare : Nat → Bool} {held : Bool} {r : Reach} {b0 : Nat} {v : Value} {d : DataW H} {p : List MemPlace}
    (hv : Value.okWide Tryz.prog w r b0 27 v) (h : DataW.Trod enc Tryz.prog w base spare held 27 v d p) : ∃ c : CPU, v = .agg c.a ∧ c.ok := by
  obtain ⟨cs, rfl, hsz⟩ := okWide_struct under_cpu' hv
  obtain ⟨l⟩ := cs
  have hl : l.length = 37 := by simpa using hsz.trans (show Tryz.prog.cellsOf 27 = 37 by kernel_rfl)
  obtain ⟨fuel, hf⟩ := h
  obtain ⟨xs, n, _, hx, _, hxl, hg⟩ := DataW.trod_struct under_cpu' hf
  have hxl : xs.length = 4 := hxl.trans (by kernel_rfl)
  have get : ∀ (i : Nat), i < 4 → ∃ y, xs[i]? = some y := fun i hi => ⟨xs[i], List.getElem?_eq_getElem (by omega)⟩
  obtain ⟨f0, hf0, t0, o0⟩ := field_at fields_cpu 0 _ _ rfl
  obtain ⟨f1, hf1, t1, o1⟩ := field_at fields_cpu 1 _ _ rfl
  obtain ⟨f2, hf2, t2, o2⟩ := field_at fields_cpu 2 _ _ rfl
  obtain ⟨f3, hf3, t3, o3⟩ := field_at fields_cpu 3 _ _ rfl
  have g0 := hg 0 f0 hf0
  have g1 := hg 1 f1 hf1
  have g2 := hg 2 f2 hf2
  have g3 := hg 3 f3 hf3
  rw [t0, o0, show Tryz.prog.cellsOf 23 = 31 by kernel_rfl] at g0
  rw [t1, o1, cells_u64] at g1
  rw [t2, o2, cells_u64] at g2
  rw [t3, o3, show Tryz.prog.cellsOf 25 = 4 by kernel_rfl] at g3
  obtain ⟨y0, hy0⟩ := get 0 (by decide)
  obtain ⟨y1, hy1⟩ := get 1 (by decide)
  obtain ⟨y2, hy2⟩ := get 2 (by decide)
  obtain ⟨y3, hy3⟩ := get 3 (by decide)
  simp only [Value.cells] at g0 g1 g2 g3
  rw [hy0] at g0
  rw [hy1] at g1
  rw [hy2] at g2
  rw [hy3] at g3
  have un : ∀ (m : Nat) (k : Nat) (q : List Value) (y : DataW H × List MemPlace), (q = (l.drop k).take 1) → DataW.trod enc Tryz.prog w base spare held m 22 q = some y → ∃ a, l[k]? = some (.int .u64 a) ∧ 0 ≤ a ∧ a < 18446744073709551616 := by
    intro m k q y hq hy
    obtain ⟨a, e, _, wf⟩ := DataW.trod_int Tryz.underlying22 hy
    refine ⟨a, one_of_take (by rw [← hq, e]), ?_⟩
    simp [Lit.wf, IntKind.min, IntKind.max, IntKind.bits, IntKind.signed] at wf
    omega
  have hX : ∀ i, i < 31 → ∃ a, l[i]? = some (.int .u64 a) ∧ 0 ≤ a ∧ a < 18446744073709551616 := by
    obtain ⟨zs, m, _, _, _, hzl, hz⟩ := DataW.trod_array Tryz.underlying23 g0
    intro i hi
    have h1 := hz i hi
    rw [cells_u64, Nat.mul_one, List.getElem?_eq_getElem (show i < zs.length by omega)] at h1
    refine un _ i _ _ ?_ h1
    rw [List.drop_zero, List.drop_take, List.take_take]
    congr 1
    omega
  have hS := un _ 31 _ _ rfl g1
  have hP := un _ 32 _ _ rfl g2
  have hF : ∀ i, i < 4 → ∃ b, l[33 + i]? = some (.bool b) := by
    obtain ⟨zs, m, _, _, _, hzl, hz⟩ := DataW.trod_struct under_fl' g3
    have hzl : zs.length = 4 := hzl.trans (by kernel_rfl)
    intro i hi
    have hfi : ([(4, 0), (4, 1), (4, 2), (4, 3)] : List (Nat × Nat))[i]? = some (4, i) := by
      have : i = 0 ∨ i = 1 ∨ i = 2 ∨ i = 3 := by omega
      rcases this with rfl | rfl | rfl | rfl <;> rfl
    obtain ⟨f, hf, tf, of⟩ := field_at fields_fl i _ _ hfi
    have h1 := hz i f hf
    rw [tf, of, show Tryz.prog.cellsOf 4 = 1 by kernel_rfl, List.getElem?_eq_getElem (show i < zs.length by omega)] at h1
    obtain ⟨b, e, _⟩ := DataW.trod_bool Tryz.underlying4 h1
    refine ⟨b, one_of_take ?_⟩
    rw [← e, List.drop_take, List.take_take, List.drop_drop]
    congr 1
    omega
  have hX2 : ∀ i, i < 33 → ∃ a, l[i]? = some (.int .u64 a) ∧ 0 ≤ a ∧ a < 18446744073709551616 := fun i hi => by
    by_cases h1 : i < 31
    · exact hX i h1
    · have : i = 31 ∨ i = 32 := by omega
      rcases this with rfl | rfl
      · exact hS
      · exact hP
  refine ⟨cpuOf l, ?_, ?_⟩
  · rw [CPU.a, cpuOf_l l hl (fun i hi => by obtain ⟨a, h, _⟩ := hX2 i hi; exact ⟨a, h⟩) (fun i h1 h2 => by
      obtain ⟨b, hb⟩ := hF (i - 33) (by omega)
      rw [show 33 + (i - 33) = i by omega] at hb
      exact ⟨b, hb⟩)]
  · have hu : ∀ i, i < 33 → 0 ≤ u64At l i ∧ u64At l i < 18446744073709551616 := fun i hi => by
      obtain ⟨a, h, h2⟩ := hX2 i hi
      unfold u64At; rw [h]; exact h2
    refine ⟨fun i => ?_, hu 31 (by decide), hu 32 (by decide)⟩
    show 0 ≤ (if i < 31 then u64At l i else 0) ∧ (if i < 31 then u64At l i else 0) < 18446744073709551616
    by_cases h1 : i < 31
    · rw [if_pos h1]; exact hu i (by omega)
    · rw [if_neg h1]; omega
theorem put_pc (c : CPU) (n : Int) (st : Bool) (v : Int) : (c.put n st v).pc = c.pc ∧ (c.put n st v).n = c.n ∧ (c.put n st v).z = c.z ∧ (c.put n st v).c = c.c ∧ (c.put n st v).v = c.v := by
  unfold CPU.put CPU.setX
  split
  · exact ⟨rfl, rfl, rfl, rfl, rfl⟩
  · split <;> exact ⟨rfl, rfl, rfl, rfl, rfl⟩
end Go.Proofs.YtblnfngigdipcaaGreatDoor.ST
namespace Go.Proofs.YtblnfngigdipcaaGreatDoor.Pure
open Go.RowKit Go.Proofs.YtblnfngigdipcaaGreatDoor.P Go.Proofs.YtblnfngigdipcaaGreatDoorW.PrintWords Go.Proofs.YtblnfngigdipcaaGreatDoorW.PrintLast Go.Proofs.YtblnfngigdipcaaGreatDoorW.PrintMore Go.Proofs.YtblnfngigdipcaaGreatDoor.MW Go.Proofs.YtblnfngigdipcaaGreatDoor.ST
set_option linter.unusedVariables false
set_option linter.unusedSimpArgs false
set_option maxHeartbeats 4000000 in
set_option maxRecDepth 100000 in
theorem StepRuns_early (c : CPU) (A1 : Option Addr) (c1 : Nat) (l1 : List S61) (n m : Int) (W : World) (b : Bool) (hbig : cleatref07_Big.f 100 l1 = some b) (hr1 : Kd.C k61 W A1 l1.length l1) (hc1 : l1.length ≤ c1) (hTab : TabW W)
    (h : b = true ∨ (b = false ∧ (n < 0 ∨ m < 0 ∨ 30 < n ∨ 30 < m))) :
    Calls Tryz.prog 4 #[.agg c.a, .slice A1 l1.length c1, .int .i64 n, .int .i64 m] W fun e w' => e = .returned (.bool true) ∧ Below W.heap.size W w' := by
  have HBIG := aq (fun w hR => cleatref07_Big.calls 100 A1 c1 l1 b w hR hc1 hbig)
  have HR := aq (Kd.C_below hr1 (below_alloc (Below.refl W.heap.size W) (.cells c.a 27)))
  have HT := aq hTab
  have hcase : b = true ∨ (b = false ∧ decide (n < 0) = true) ∨ (b = false ∧ decide (n < 0) = false ∧ decide (m < 0) = true) ∨ (b = false ∧ decide (n < 0) = false ∧ decide (m < 0) = false ∧ decide (n > 30) = true) ∨ (b = false ∧ decide (n < 0) = false ∧ decide (m < 0) = false ∧ decide (n > 30) = false ∧ decide (m > 30) = true) := by
    rcases h with h | ⟨h, h2⟩
    · exact .inl h
    · by_cases h3 : n < 0
      · exact .inr (.inl ⟨h, decide_eq_true h3⟩)
      · by_cases h4 : m < 0
        · exact .inr (.inr (.inl ⟨h, decide_eq_false h3, decide_eq_true h4⟩))
        · by_cases h5 : n > 30
          · exact .inr (.inr (.inr (.inl ⟨h, decide_eq_false h3, decide_eq_false h4, decide_eq_true h5⟩)))
          · exact .inr (.inr (.inr (.inr ⟨h, decide_eq_false h3, decide_eq_false h4, decide_eq_false h5, decide_eq_true (by omega)⟩)))
  clear h hbig hr1 hc1 hTab
  rcases hcase with rfl | ⟨rfl, d1⟩ | ⟨rfl, d1, d2⟩ | ⟨rfl, d1, d2, d3⟩ | ⟨rfl, d1, d2, d3, d4⟩
  all_goals
    go_enter Tryz.func4, Tryz.ntmps4
    go_wp2_with fail
    refine (HBIG.out _ HR.out).mono ?_
    rintro e w1 ⟨rfl, ⟨n1, rfl⟩⟩
    have HB := aq (pw_below_drewN (below_alloc (Below.refl W.heap.size W) (.cells c.a 27)) n1)
    go_wp2_with fail
    refine (stepped_calls _ (HT.out.below HB.out)).mono ?_
    rintro e w2 ⟨rfl, hb⟩
    have HB2 := aq (below_step HB.out hb)
    clear hb
    go_wp2
    go_ret
    exact ⟨rfl, HB2.out⟩
set_option maxHeartbeats 4000000 in
set_option maxRecDepth 100000 in
theorem StepRuns_none (c : CPU) (A1 : Option Addr) (c1 : Nat) (l1 : List S61) (n m : Int) (W : World) (hbig : cleatref07_Big.f 100 l1 = some false) (hr1 : Kd.C k61 W A1 l1.length l1) (hc1 : l1.length ≤ c1) (hTab : TabW W)
    (hl : l1.length ≤ 20) (hgl : ∀ r, r ∈ l1 → 0 ≤ r.f0 ∧ r.f0 < 18446744073709551616) (n0 : 0 ≤ n) (n1 : n ≤ 30) (m0 : 0 ≤ m) (m1 : m ≤ 30) (hv : newV l1 ≠ 0) :
    Calls Tryz.prog 4 #[.agg c.a, .slice A1 l1.length c1, .int .i64 n, .int .i64 m] W fun e w' => e = .returned (.bool true) ∧ Below W.heap.size W w' := by
  have HBIG := aq (fun w hR => cleatref07_Big.calls 100 A1 c1 l1 false w hR hc1 hbig)
  have HNEW := aq (fun w (hR : Kd.C k61 w A1 l1.length l1) => (new_at w A1 c1 l1 hR hc1 (by omega) hgl).1 hv)
  have HR := aq (Kd.C_below hr1 (below_alloc (Below.refl W.heap.size W) (.cells c.a 27)))
  have HT := aq hTab
  have d1 : decide (n < 0) = false := decide_eq_false (by omega)
  have d2 : decide (m < 0) = false := decide_eq_false (by omega)
  have d3 : decide (n > 30) = false := decide_eq_false (by omega)
  have d4 : decide (m > 30) = false := decide_eq_false (by omega)
  have hv' : (newV l1 != 0) = true := by simpa using hv
  clear hbig hr1 hc1 hTab hl hgl n0 n1 m0 m1 hv
  generalize newV l1 = v at *
  go_enter Tryz.func4, Tryz.ntmps4
  go_wp2_with fail
  refine (HBIG.out _ HR.out).mono ?_
  rintro e w1 ⟨rfl, ⟨n1, rfl⟩⟩
  have HB := aq (pw_below_drewN (below_alloc (Below.refl W.heap.size W) (.cells c.a 27)) n1)
  have HR1 := aq (Kd.C_below HR.out (pw_below_drewN (Below.refl _ _) n1))
  go_wp2_with fail
  refine (HNEW.out _ HR1.out).mono ?_
  rintro e w2 ⟨rfl, hb⟩
  have HB2 := aq (below_step HB.out hb)
  have HR2 := aq (Kd.C_below HR1.out hb)
  clear hb
  go_wp2_with fail
  refine (HNEW.out _ HR2.out).mono ?_
  rintro e w3 ⟨rfl, hb⟩
  have HB3 := aq (below_step HB2.out hb)
  clear hb
  go_wp2_with fail
  refine (stepped_calls _ (HT.out.below HB3.out)).mono ?_
  rintro e w4 ⟨rfl, hb⟩
  have HB4 := aq (below_step HB3.out hb)
  clear hb
  go_wp2
  go_ret
  exact ⟨rfl, HB4.out⟩
attribute [-go_sem] Instr.loadAt in
set_option maxHeartbeats 4000000 in
set_option maxRecDepth 100000 in
theorem StepRuns_main (c : CPU) (hc : c.ok) (A1 : Option Addr) (c1 : Nat) (l1 : List S61) (n m : Nat) (W : World) (hbig : cleatref07_Big.f 100 l1 = some false) (hr1 : Kd.C k61 W A1 l1.length l1) (hc1 : l1.length ≤ c1) (hTab : TabW W)
    (hl : l1.length ≤ 20) (hgl : ∀ r, r ∈ l1 → 0 ≤ r.f0 ∧ r.f0 < 18446744073709551616) (n1 : n ≤ 30) (m1 : m ≤ 30) (hv : newV l1 = 0) :
    Calls Tryz.prog 4 #[.agg c.a, .slice A1 l1.length c1, .int .i64 (n : Int), .int .i64 (m : Int)] W fun e w' => e = .returned (.bool true) ∧ Below W.heap.size W w' := by
  have HBIG := aq (fun w hR => cleatref07_Big.calls 100 A1 c1 l1 false w hR hc1 hbig)
  have HNEW := aq (fun w (hR : Kd.C k61 w A1 l1.length l1) => (new_at w A1 c1 l1 hR hc1 (by omega) hgl).2 hv)
  have HR := aq (Kd.C_below hr1 (below_alloc (Below.refl W.heap.size W) (.cells c.a 27)))
  have HC := aq (blk_new W (.cells c.a 27))
  have HT := aq hTab
  have HCO := aq hc
  have d1 : decide ((n : Int) < 0) = false := decide_eq_false (by omega)
  have d2 : decide ((m : Int) < 0) = false := decide_eq_false (by omega)
  have d3 : decide ((n : Int) > 30) = false := decide_eq_false (by omega)
  have d4 : decide ((m : Int) > 30) = false := decide_eq_false (by omega)
  have hW0 : 0 < (W.alloc (.cells c.a 27)).heap.size := by show 0 < (W.heap.push _).size; rw [Array.size_push]; omega
  have HW0 := aq hW0
  have hw : wrap64 ((n : Int) + (m : Int)) = ((n + m : Nat) : Int) := by unfold wrap64; omega
  obtain ⟨hp1, hp2⟩ := runs_pure n m (memL l1) c
  have HT1 := aq (run_told n (memL l1) c .zero)
  have HN1 := aq n1
  have HM1_ := aq m1
  have HP1 := aq hp1
  have HP2 := aq hp2
  clear hbig hr1 hc1 hTab hl hgl hv hc hW0 hp1 hp2 n1 m1
  generalize memL l1 = L at *
  go_enter Tryz.func4, Tryz.ntmps4
  go_wp2_with fail
  refine (HBIG.out _ HR.out).mono ?_
  rintro e w1 ⟨rfl, ⟨n1, rfl⟩⟩
  have hb1 := pw_below_drewN (Below.refl (W.alloc (.cells c.a 27)).heap.size (W.alloc (.cells c.a 27))) n1
  have HB := aq (below_step (below_alloc (Below.refl W.heap.size W) (.cells c.a 27)) hb1)
  have HR1 := aq (Kd.C_below HR.out hb1)
  have HC1 := aq (blk_below HC.out hb1)
  have HW1 := aq (Nat.lt_of_lt_of_le HW0.out hb1.size)
  clear hb1
  generalize (W.alloc (.cells c.a 27)).drewN n1 = w1 at *
  clear HR HC HW0
  go_wp2_with fail
  refine (HNEW.out _ HR1.out).mono ?_
  rintro e w2 ⟨rfl, hb, hm⟩
  have HB2 := aq (below_step HB.out hb)
  have HR2 := aq (Kd.C_below HR1.out hb)
  have HC2 := aq (blk_below HC1.out hb)
  have HMA2 := aq hm
  have HLA := aq (show W.heap.size ≤ w1.heap.size from HB.out.size)
  have HMS := aq (show w1.heap.size ≤ w2.heap.size from hb.size)
  have HLT := aq (blk_lt HC1.out)
  clear hb hm
  generalize w1.heap.size = MA at *
  go_wp2_with fail
  refine (HNEW.out _ HR2.out).mono ?_
  rintro e w3 ⟨rfl, hb, hm⟩
  have HB3 := aq (below_step HB2.out hb)
  have HC3 := aq (blk_below HC2.out hb)
  have HMA3 := aq (HMA2.out.below hb)
  have HMB3 := aq hm
  have HLB := aq (show W.heap.size ≤ w2.heap.size from HB2.out.size)
  have HS23 := aq hb.size
  have HMAB := aq (show 0 < w2.heap.size from Nat.lt_of_lt_of_le HW1.out HMS.out)
  clear hb hm
  have HSZ3 := aq (show W.heap.size ≤ w3.heap.size from HB3.out.size)
  have HRUN1 := aq (run_at n L c w3 MA MA w2.heap.size HMA3.out HCO.out (HT.out.below HB3.out) HS23.out HW1.out (by have := HN1.out; omega))
  generalize hq1 : runF n L c .zero = r1 at *
  obtain ⟨ca_, ta, La⟩ := r1
  clear hq1
  simp only at HP1 HP2 HT1 HRUN1
  go_upto_region 8 with (first | ((with_reducible refine gate_dst (N := 69) rfl ?_); refine wpList_load_mid rfl 27 (.tmp 4) rfl W.heap.size 0 rfl c.l _ (c.range HC3.out) under_cpu rfl info_cpu ?_) | (go_at_call 23; refine (HRUN1.out).mono ?_; rintro e w4 ⟨va, rfl, hown, hs, hm, hok⟩; obtain ⟨Aa, cca, rfl⟩ := Go.Proofs.YtblnfngigdipcaaGreatDoorW.PrintWords.own_slice hown; have HO4 := aq hown; have HS4 := aq hs; have HMA4 := aq hm; have HOKA := aq hok; have HB4 := aq (hs.below _ _ HB3.out HLA.out HB3.out.size); have HMB4 := aq (HMB3.out.other hs (.inr (Nat.le_refl _))); have HC4 := aq (hs.block _ _ HC3.out (.inl (by have := HLT.out; omega))); clear hown hs hm hok) | ((with_reducible refine gate_store (t := 27) (p := 13) (v := .tmp 73) rfl ?_); refine wpList_store_mid rfl 27 (.tmp 13) (.tmp 73) rfl w4.heap.size 0 ca_.a rfl rfl (there_blk (blk_alloc (blk_new w4 (.cells CPU.zero.a 27)) _) 0 37 (by decide)) info_cpu ca_.one ?_) | ((with_reducible refine gate_store (t := 42) (p := 14) (v := .tmp 74) rfl ?_); refine wpList_store_mid rfl 42 (.tmp 14) (.tmp 74) rfl (w4.heap.size + 1) 0 (trA (.slice Aa ta.told.length cca) ta) rfl rfl (there_blk (blk_sets_far ca_.l 0 (Nat.succ_ne_self _) (new_last w4 (.cells CPU.zero.a 27) (.cells (trA (.slice none 0 0) .zero) 42))) 0 5 (by decide)) info_tr (by simp [trA, Value.oneCell']) ?_))
  obtain ⟨W5, hW, hrb, hbw⟩ := RB.new w4 w3.heap.size ca_ Aa cca ta HO4.out HS4.out.size
  change Code.wp _ _ _ _ ((((w4.alloc (.cells CPU.zero.a 27)).alloc (.cells (trA (.slice none 0 0) .zero) 42)).setCells w4.heap.size 0 ca_.l).setCells (w4.heap.size + 1) 0 (trA (.slice Aa ta.told.length cca) ta).toList)
  rw [← hW]
  clear hW
  have HRA5 := aq hrb
  have HB5 := aq (below_step HB4.out hbw)
  have HMA5 := aq (HMA4.out.below hbw)
  have HMB5 := aq (HMB4.out.below hbw)
  have HC5 := aq (blk_below HC4.out hbw)
  have HSZ5 := aq (Nat.le_trans HS4.out.size hbw.size)
  clear hrb hbw HO4 HMA4 HMB4 HC4 HB4
  have HRUN2 := aq (run_at m La ca_ W5 MA MA w2.heap.size HMA5.out HOKA.out (HT.out.below HB5.out) (Nat.le_trans HS23.out HSZ5.out) HW1.out (by have := HM1_.out; omega))
  have HT2 := aq (run_told m La ca_ .zero)
  have HST2 := aq (run_steps m La ca_ .zero)
  generalize hq2 : runF m La ca_ .zero = r2 at *
  obtain ⟨cb_, tb, Lb⟩ := r2
  clear hq2
  simp only at HP2 HT2 HST2 HRUN2
  generalize w4.heap.size = NA at *
  go_upto_region 9 with (first | ((with_reducible refine gate_dst (N := 76) rfl ?_); refine wpList_load_mid rfl 27 (.tmp 13) rfl NA 0 rfl ca_.l _ (ca_.range HRA5.out.b0) under_cpu rfl info_cpu ?_) | (go_at_call 23; refine (HRUN2.out).mono ?_; rintro e w6 ⟨vb, rfl, hown, hs, hm, hok⟩; obtain ⟨Ab, ccb, rfl⟩ := Go.Proofs.YtblnfngigdipcaaGreatDoorW.PrintWords.own_slice hown; have HO6 := aq hown; have HS6 := aq hs; have HB6 := aq (hs.below _ _ HB5.out HLA.out HB5.out.size); have HMB6 := aq (HMB5.out.other hs (.inr (Nat.le_refl _))); have HC6 := aq (hs.block _ _ HC5.out (.inl (by have := HLT.out; omega))); have HRA6 := aq (HRA5.out.stored hs HS23.out); clear hown hs hm hok) | ((with_reducible refine gate_store (t := 27) (p := 15) (v := .tmp 80) rfl ?_); refine wpList_store_mid rfl 27 (.tmp 15) (.tmp 80) rfl w6.heap.size 0 cb_.a rfl rfl (there_blk (blk_alloc (blk_new w6 (.cells CPU.zero.a 27)) _) 0 37 (by decide)) info_cpu cb_.one ?_) | ((with_reducible refine gate_store (t := 42) (p := 16) (v := .tmp 81) rfl ?_); refine wpList_store_mid rfl 42 (.tmp 16) (.tmp 81) rfl (w6.heap.size + 1) 0 (trA (.slice Ab tb.told.length ccb) tb) rfl rfl (there_blk (blk_sets_far cb_.l 0 (Nat.succ_ne_self _) (new_last w6 (.cells CPU.zero.a 27) (.cells (trA (.slice none 0 0) .zero) 42))) 0 5 (by decide)) info_tr (by simp [trA, Value.oneCell']) ?_))
  obtain ⟨W7, hW, hrb, hbw⟩ := RB.new w6 W5.heap.size cb_ Ab ccb tb HO6.out HS6.out.size
  change Code.wp _ _ _ _ ((((w6.alloc (.cells CPU.zero.a 27)).alloc (.cells (trA (.slice none 0 0) .zero) 42)).setCells w6.heap.size 0 cb_.l).setCells (w6.heap.size + 1) 0 (trA (.slice Ab tb.told.length ccb) tb).toList)
  rw [← hW]
  clear hW
  have HRB7 := aq hrb
  have HB7 := aq (below_step HB6.out hbw)
  have HMB7 := aq (HMB6.out.below hbw)
  have HC7 := aq (blk_below HC6.out hbw)
  have HRA7 := aq (HRA6.out.below hbw)
  have HSZ7 := aq (Nat.le_trans HSZ5.out (Nat.le_trans HS6.out.size hbw.size))
  have HSB := aq HSZ5.out
  clear hrb hbw HO6 HMB6 HC6 HB6 HRA6 HRA5 HMA5 HMB5 HC5
  have HRUN3 := aq (run_at (n + m) L c W7 w2.heap.size w2.heap.size w3.heap.size HMB7.out HCO.out (HT.out.below HB7.out) HSZ7.out HMAB.out (by have := HN1.out; have := HM1_.out; omega))
  have HT3 := aq (run_told (n + m) L c .zero)
  generalize hq3 : runF (n + m) L c .zero = r3 at *
  obtain ⟨cc_, tc, Lc⟩ := r3
  clear hq3
  simp only at HP1 HP2 HT3 HRUN3
  generalize w6.heap.size = NB at *
  go_upto_region 10 with (first | ((with_reducible refine gate_dst (N := 83) rfl ?_); refine wpList_load_mid rfl 27 (.tmp 4) rfl W.heap.size 0 rfl c.l _ (c.range HC7.out) under_cpu rfl info_cpu ?_) | (go_at_call 23; (try rw [hw]); refine (HRUN3.out).mono ?_; rintro e w8 ⟨vc, rfl, hown, hs, hm, hok⟩; obtain ⟨Ac, ccc, rfl⟩ := Go.Proofs.YtblnfngigdipcaaGreatDoorW.PrintWords.own_slice hown; have HO8 := aq hown; have HS8 := aq hs; have HB8 := aq (hs.below _ _ HB7.out HLB.out HB7.out.size); have HRA8 := aq (HRA7.out.stored hs (Nat.le_refl _)); have HRB8 := aq (HRB7.out.stored hs HSB.out); clear hown hs hm hok) | ((with_reducible refine gate_store (t := 27) (p := 17) (v := .tmp 89) rfl ?_); refine wpList_store_mid rfl 27 (.tmp 17) (.tmp 89) rfl w8.heap.size 0 cc_.a rfl rfl (there_blk (blk_alloc (blk_new w8 (.cells CPU.zero.a 27)) _) 0 37 (by decide)) info_cpu cc_.one ?_) | ((with_reducible refine gate_store (t := 42) (p := 18) (v := .tmp 90) rfl ?_); refine wpList_store_mid rfl 42 (.tmp 18) (.tmp 90) rfl (w8.heap.size + 1) 0 (trA (.slice Ac tc.told.length ccc) tc) rfl rfl (there_blk (blk_sets_far cc_.l 0 (Nat.succ_ne_self _) (new_last w8 (.cells CPU.zero.a 27) (.cells (trA (.slice none 0 0) .zero) 42))) 0 5 (by decide)) info_tr (by simp [trA, Value.oneCell']) ?_))
  obtain ⟨W9, hW, hrb, hbw⟩ := RB.new w8 W7.heap.size cc_ Ac ccc tc HO8.out HS8.out.size
  change Code.wp _ _ _ _ ((((w8.alloc (.cells CPU.zero.a 27)).alloc (.cells (trA (.slice none 0 0) .zero) 42)).setCells w8.heap.size 0 cc_.l).setCells (w8.heap.size + 1) 0 (trA (.slice Ac tc.told.length ccc) tc).toList)
  rw [← hW]
  clear hW
  have HRC9 := aq hrb
  have HB9 := aq (below_step HB8.out hbw)
  have HRA9 := aq (HRA8.out.below hbw)
  have HRB9 := aq (HRB8.out.below hbw)
  clear hrb hbw HO8 HB8 HRA8 HRB8 HC7 HMB7 HRA7 HRB7 HRUN1 HRUN2 HRUN3
  generalize w8.heap.size = NC at *
  have hl1 := HRA9.out.c.2.1
  have hl2 := HRA9.out.c.2.2.2.2
  have heq := fun w => eq_cpu ca_ w
  have HLEN1 := aq (show ta.told.length ≤ 30 by have a := HT1.out; have b := HN1.out; have z : TR.zero.told.length = 0 := rfl; omega)
  have HLEN2 := aq (show tb.told.length ≤ 30 by have a := HT2.out; have b := HM1_.out; have z : TR.zero.told.length = 0 := rfl; omega)
  by_cases hcond : ta.halted = true ∨ ta.e ≠ 0
  · have hsame := HP1.out hcond
    simp only [Prod.mk.injEq] at hsame
    obtain ⟨e1, e2, -⟩ := hsame
    have HRC := aq (show RB W9 W7.heap.size NC ca_ Ac ccc ta by rw [← e1, ← e2]; exact HRC9.out)
    have hcase : ta.halted = true ∨ (ta.halted = false ∧ (ta.e != 0) = true) := by
      cases hh : ta.halted with
      | true => exact .inl rfl
      | false => exact .inr ⟨rfl, by rw [hh] at hcond; simpa using hcond⟩
    clear e1 e2 HRC9 hcond
    rcases hcase with hh | ⟨hh, he⟩
    all_goals
      rw [hh] at hl1
      go_wp2_with fail
      refine (stepped_calls _ (HT.out.below HB9.out)).mono ?_
      rintro e w10 ⟨rfl, hb⟩
      have HB10 := aq (below_step HB9.out hb)
      have RA := aq (HRA9.out.below hb)
      have RC := aq (HRC.out.below hb)
      clear hb hl1 hl2
      have l1 := RC.out.ld
      have l2 := RA.out.ld
      have l3 := RC.out.ldt
      have l4 := RA.out.ldt
      go_wp2_with fail
      refine (same_calls Ac Aa ccc cca ta _ RC.out.kd.1 RC.out.kd.2 RA.out.kd.1 RA.out.kd.2 (by have := HLEN1.out; omega)).mono ?_
      rintro e w11 ⟨rfl, hb⟩
      have HB11 := aq (below_step HB10.out hb)
      clear hb l1 l2 l3 l4
      go_wp2
      go_ret
      exact ⟨rfl, HB11.out⟩
  · obtain ⟨hst, e1, e2⟩ := HP2.out hcond
    have h1 : ta.halted = false := by cases hh : ta.halted with | false => rfl | true => exact absurd (.inl hh) hcond
    have h2 : ta.e = 0 := Classical.byContradiction fun h => hcond (.inr h)
    have hs3 := HST2.out
    simp only [TR.zero] at hs3
    have hws : wrap64 ((n : Int) + tb.steps) = (n : Int) + tb.steps := by have := HN1.out; have := HM1_.out; unfold wrap64; omega
    have HRC := aq (show RB W9 W7.heap.size NC cb_ Ac ccc (ta.on tb) by rw [← e1, ← e2]; exact HRC9.out)
    have HST := aq hst
    have heq2 := fun w => eq_cpu cb_ w
    have hl0 := HRA9.out.c.1
    have hm0 := HRB9.out.c.1
    clear e1 e2 HRC9 hcond hs3 hst
    rw [h1] at hl1
    rw [h2] at hl2
    go_upto_region 14 with ((with_reducible refine gate_builtin (b := .append) (xs := #[.tmp 109, .tmp 111]) rfl ?_); at_builtin; refine print_append_row (w0 := W9) W9.heap.size rfl (.tmp 109) (.tmp 111) 40 22 .u64 8 rfl Tryz.underlying40 ST.info_u64 (by omega) (.slice none 0 0) [] ta.told Aa ta.told.length cca rfl rfl ⟨rfl, .inl ⟨rfl, rfl⟩⟩ (own_reads' HRA9.out.row) (Below.refl _ _) (Nat.le_refl _) (by have := HLEN1.out; simp; omega) ?_; intro v1 w10 hown hB hg hat; obtain ⟨A1_, cA, rfl⟩ := Go.Proofs.YtblnfngigdipcaaGreatDoorW.PrintWords.own_slice hown; have HO10 := aq hown; have HB10 := aq hB; clear hown hB hg hat)
    clear hl0 hl1 hl2 hm0
    have hm0 := (HRB9.out.below HB10.out).c.1
    go_upto_region 15 with ((with_reducible refine gate_builtin (b := .append) (xs := #[.tmp 113, .tmp 115]) rfl ?_); at_builtin; refine print_append_row (w0 := W9) W9.heap.size rfl (.tmp 113) (.tmp 115) 40 22 .u64 8 rfl Tryz.underlying40 ST.info_u64 (by omega) (.slice A1_ ([] ++ ta.told).length cA) ([] ++ ta.told) tb.told Ab tb.told.length ccb rfl rfl HO10.out (own_reads' (HRB9.out.below HB10.out).row) HB10.out HB10.out.size (by have := HLEN1.out; have := HLEN2.out; simp; omega) ?_; intro v2 w11 hown hB hg hat; obtain ⟨A2_, cB, rfl⟩ := Go.Proofs.YtblnfngigdipcaaGreatDoorW.PrintWords.own_slice hown; have HO11 := aq hown; have HB11 := aq hB; clear hown hB hg hat)
    clear hm0 HO10 HB10
    have HBW := aq (below_step HB9.out HB11.out)
    go_wp2_with fail
    refine (stepped_calls _ (HT.out.below HBW.out)).mono ?_
    rintro e w12 ⟨rfl, hb⟩
    have HB12 := aq (below_step HBW.out hb)
    have hb9 := below_step HB11.out hb
    have RA := aq (HRA9.out.below hb9)
    have RB_ := aq (HRB9.out.below hb9)
    have RC := aq (HRC.out.below hb9)
    have HO12 := aq (own_move HO11.out (fun k hk => hb.block k (own_lt HO11.out k hk)))
    clear hb hb9
    have l1 := RC.out.ld
    have l2 := RB_.out.ld
    have l3 := RC.out.ldt
    obtain ⟨-, -, -, x3, -⟩ := RA.out.c
    obtain ⟨-, y1, y2, y3, y4⟩ := RB_.out.c
    rw [HST.out] at x3
    have hsame := same_calls Ac A2_ ccc cB (ta.on tb) w12 RC.out.kd.1 RC.out.kd.2 (own_kd HO12.out).1 (own_kd HO12.out).2 (by have := HLEN1.out; have := HLEN2.out; simp [TR.on]; omega)
    have hst := HST.out
    simp only [trA, TR.on, List.length_append, hst] at l3 hsame
    have HSAME := aq hsame
    clear hsame hst
    go_wp2_with fail
    refine HSAME.out.mono ?_
    rintro e w13 ⟨rfl, hb⟩
    have HB13 := aq (below_step HB12.out hb)
    clear hb l1 l2 l3 x3 y1 y2 y3 y4
    go_wp2
    go_ret
    exact ⟨rfl, HB13.out⟩
theorem StepRuns_walk (a0 : CPU) (A1 : Option Addr) (c1 : Nat) (l1 : List S61) (a2 a3 : Int) (W : World) (w0 : a0.ok) (hr1 : Kd.C k61 W A1 l1.length l1) (hc1 : l1.length ≤ c1)
    (hg1 : ∀ q, q ∈ l1 → (Lit.int .u64 q.f0).wf = true ∧ (Lit.int .i64 q.f1).wf = true ∧ q.f2.size ≤ maxLen) (w2 : (Lit.int .i64 a2).wf = true) (w3 : (Lit.int .i64 a3).wf = true) (hTab : TabW W) :
    Calls Tryz.prog 4 #[.agg a0.a, .slice A1 l1.length c1, .int .i64 a2, .int .i64 a3] W fun e w' => e = .returned (.bool true) ∧ Below W.heap.size W w' := by
  have hgl : ∀ r, r ∈ l1 → 0 ≤ r.f0 ∧ r.f0 < 18446744073709551616 := fun r hr => by
    have := (hg1 r hr).1
    simp [Lit.wf, IntKind.min, IntKind.max, IntKind.bits, IntKind.signed] at this; omega
  obtain ⟨b, hbig, hlen⟩ := big_at l1
  cases b with
  | true => exact StepRuns_early a0 A1 c1 l1 a2 a3 W true hbig hr1 hc1 hTab (.inl rfl)
  | false =>
    by_cases h : a2 < 0 ∨ a3 < 0 ∨ 30 < a2 ∨ 30 < a3
    · exact StepRuns_early a0 A1 c1 l1 a2 a3 W false hbig hr1 hc1 hTab (.inr ⟨rfl, h⟩)
    · by_cases hv : newV l1 = 0
      · obtain ⟨n, rfl⟩ := Int.eq_ofNat_of_zero_le (show 0 ≤ a2 by omega)
        obtain ⟨m, rfl⟩ := Int.eq_ofNat_of_zero_le (show 0 ≤ a3 by omega)
        exact StepRuns_main a0 w0 A1 c1 l1 n m W hbig hr1 hc1 hTab (hlen rfl) hgl (by omega) (by omega) hv
      · exact StepRuns_none a0 A1 c1 l1 a2 a3 W hbig hr1 hc1 hTab (hlen rfl) hgl (by omega) (by omega) (by omega) (by omega) hv
end Go.Proofs.YtblnfngigdipcaaGreatDoor.Pure
