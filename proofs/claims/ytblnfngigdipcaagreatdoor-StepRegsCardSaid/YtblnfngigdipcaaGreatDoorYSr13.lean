/- Written for this claim by a program of this session: what the claim uses of lemmas and proved contracts of Go functions. -/
import Derived.Test.YtblnfngigdipcaaGreatDoorYSr12
import Derived.ChangeKeysEq
import Derived.OpenShut
import Derived.ChangeOld
import Derived.SizedLaws
import Derived.Carry
import Derived.Deep.Fields
namespace Go.Proofs.YtblnfngigdipcaaGreatDoor.ST
open Go.RowKit Go.Proofs.YtblnfngigdipcaaGreatDoor.P Go.Proofs.YtblnfngigdipcaaGreatDoorW.PrintWords Go.Proofs.YtblnfngigdipcaaGreatDoorW.PrintLast Go.Proofs.YtblnfngigdipcaaGreatDoorW.PrintMore
open Go.ChangeShapes Go.WideShapes Go.ChangeAt Go.RowKit Go.Deep
set_option linter.unusedVariables false
set_option linter.unusedSimpArgs false
theorem eq_zero (w : World) : (binOp .eql 27 (.agg CPU.zero.a) (.agg CPU.zero.a)).run Tryz.prog w = .ok (.bool true) w := by kernel_rfl
theorem ne_fl (a b c d : Bool) (w : World) : (binOp .neq 25 (.agg #[.bool a, .bool b, .bool c, .bool d]) (.agg #[.bool a, .bool b, .bool c, .bool d])).run Tryz.prog w = .ok (.bool false) w := by
  cases a <;> cases b <;> cases c <;> cases d <;> kernel_rfl
theorem cells_u64 : Tryz.prog.cellsOf 22 = 1 := by kernel_rfl
theorem under_cpu' : Tryz.prog.underlying 27 = some (.struct (Tryz.prog.fieldsOf 27)) := by kernel_rfl
theorem fields_cpu : (Tryz.prog.fieldsOf 27).toList.map (fun f => (f.type, f.offset)) = [(23, 0), (22, 31), (22, 32), (25, 33)] := by kernel_rfl
theorem under_fl' : Tryz.prog.underlying 25 = some (.struct (Tryz.prog.fieldsOf 25)) := by kernel_rfl
theorem fields_fl : (Tryz.prog.fieldsOf 25).toList.map (fun f => (f.type, f.offset)) = [(4, 0), (4, 1), (4, 2), (4, 3)] := by kernel_rfl
theorem field_at {fs : Array Field} {L : List (Nat × Nat)} (h : fs.toList.map (fun f => (f.type, f.offset)) = L) (i : Nat) (t o : Nat) (hi : L[i]? = some (t, o)) : ∃ f, fs[i]? = some f ∧ f.type = t ∧ f.offset = o := by
  rw [← h, List.getElem?_map] at hi
  obtain ⟨f, hf, e⟩ := Option.map_eq_some_iff.1 hi
  simp only [Prod.mk.injEq] at e
  exact ⟨f, by rw [← Array.getElem?_toList]; exact hf, e.1, e.2⟩
def u64At (l : List Value) (i : Nat) : Int := match l[i]? with | some (.int .u64 a) => a | _ => 0
def boolAt (l : List Value) (i : Nat) : Bool := match l[i]? with | some (.bool a) => a | _ => false
def cpuOf (l : List Value) : CPU := ⟨fun i => if i < 31 then u64At l i else 0, u64At l 31, u64At l 32, boolAt l 33, boolAt l 34, boolAt l 35, boolAt l 36⟩
theorem one_of_take {l : List Value} {i : Nat} {x : Value} (h : (l.drop i).take 1 = [x]) : l[i]? = some x := by
  have := congrArg (fun k => k[0]?) h
  simp only [List.getElem?_take, List.getElem?_drop, List.getElem?_cons_zero, Nat.add_zero] at this
  simpa using this
theorem cpuOf_l (l : List Value) (hl : l.length = 37) (hx : ∀ i, i < 33 → ∃ a, l[i]? = some (.int .u64 a)) (hb : ∀ i, 33 ≤ i → i < 37 → ∃ b, l[i]? = some (.bool b)) : (cpuOf l).l = l := by
  have ux : ∀ i, i < 33 → l[i]? = some (.int .u64 (u64At l i)) := fun i hi => by
    obtain ⟨a, ha⟩ := hx i hi
    unfold u64At; rw [ha]
  have ub : ∀ i, 33 ≤ i → i < 37 → l[i]? = some (.bool (boolAt l i)) := fun i h1 h2 => by
    obtain ⟨a, ha⟩ := hb i h1 h2
    unfold boolAt; rw [ha]
  apply List.ext_getElem?
  intro i
  by_cases h1 : i < 31
  · have := (cpuOf l).get h1
    rw [CPU.a, List.getElem?_toArray] at this
    rw [this, ux i (by omega)]
    show some (Value.int .u64 (if i < 31 then u64At l i else 0)) = _
    rw [if_pos h1]
  · by_cases h2 : i < 37
    · have : i = 31 ∨ i = 32 ∨ i = 33 ∨ i = 34 ∨ i = 35 ∨ i = 36 := by omega
      rcases this with rfl | rfl | rfl | rfl | rfl | rfl
      · exact (ux 31 (by decide)).symm
      · exact (ux 32 (by decide)).symm
      · exact (ub 33 (by decide) (by decide)).symm
      · exact (ub 34 (by decide) (by decide)).symm
      · exact (ub 35 (by decide) (by decide)).symm
      · exact (ub 36 (by decide) (by decide)).symm
    · rw [List.getElem?_eq_none (by show (37 : Nat) ≤ i; omega), List.getElem?_eq_none (by omega)]
set_option maxRecDepth 100000 in
theorem open_cpu {H : Type} {enc : TypeId × Value → H} {w : World} {base : Nat} {spare : Nat → Bool} {held : Bool} {r : Reach} {b0 : Nat} {v : Value} {d : DataW H} {p : List MemPlace}
    (hv : Value.okWide Tryz.prog w r b0 27 v) (h : DataW.Trod enc Tryz.prog w base spare held 27 v d p) : ∃ c : CPU, v = .agg c.a ∧ c.ok := by
  obtain ⟨cs, rfl, hsz⟩ := okWide_struct under_cpu' hv
  obtain ⟨l⟩ := cs
  have hl : l.length = 37 := by simpa using hsz.trans (show Tryz.prog.cellsOf 27 = 37 by kernel_rfl)
  obtain ⟨fuel, hf⟩ := h
  obtain ⟨xs, n, _, hx, _, hxl, hg⟩ := DataW.trod_struct under_cpu' hf
  have hxl : xs.length = 4 := hxl.trans (by kernel_rfl)
  have get : ∀ (i : Nat), i < 4 → ∃ y, xs[i]? = some y := fun i hi => ⟨xs[i], List.getElem?_eq_getElem (by omega)⟩
  obtain ⟨f0, hf0, t0, o0⟩ := field_at fields_cpu 0 _ _ rfl
  obtain ⟨f1, hf1, t1, o1⟩ := field_at fields_cpu 1 _ _ rfl
  obtain ⟨f2, hf2, t2, o2⟩ := field_at fields_cpu 2 _ _ rfl
  obtain ⟨f3, hf3, t3, o3⟩ := field_at fields_cpu 3 _ _ rfl
  have g0 := hg 0 f0 hf0
  have g1 := hg 1 f1 hf1
  have g2 := hg 2 f2 hf2
  have g3 := hg 3 f3 hf3
  rw [t0, o0, show Tryz.prog.cellsOf 23 = 31 by kernel_rfl] at g0
  rw [t1, o1, cells_u64] at g1
  rw [t2, o2, cells_u64] at g2
  rw [t3, o3, show Tryz.prog.cellsOf 25 = 4 by kernel_rfl] at g3
  obtain ⟨y0, hy0⟩ := get 0 (by decide)
  obtain ⟨y1, hy1⟩ := get 1 (by decide)
  obtain ⟨y2, hy2⟩ := get 2 (by decide)
  obtain ⟨y3, hy3⟩ := get 3 (by decide)
  simp only [Value.cells] at g0 g1 g2 g3
  rw [hy0] at g0
  rw [hy1] at g1
  rw [hy2] at g2
  rw [hy3] at g3
  have un : ∀ (m : Nat) (k : Nat) (q : List Value) (y : DataW H × List MemPlace), (q = (l.drop k).take 1) → DataW.trod enc Tryz.prog w base spare held m 22 q = some y → ∃ a, l[k]? = some (.int .u64 a) ∧ 0 ≤ a ∧ a < 18446744073709551616 := by
    intro m k q y hq hy
    obtain ⟨a, e, _, wf⟩ := DataW.trod_int Tryz.underlying22 hy
    refine ⟨a, one_of_take (by rw [← hq, e]), ?_⟩
    simp [Lit.wf, IntKind.min, IntKind.max, IntKind.bits, IntKind.signed] at wf
    omega
  have hX : ∀ i, i < 31 → ∃ a, l[i]? = some (.int .u64 a) ∧ 0 ≤ a ∧ a < 18446744073709551616 := by
    obtain ⟨zs, m, _, _, _, hzl, hz⟩ := DataW.trod_array Tryz.underlying23 g0
    intro i hi
    have h1 := hz i hi
    rw [cells_u64, Nat.mul_one, List.getElem?_eq_getElem (show i < zs.length by omega)] at h1
    refine un _ i _ _ ?_ h1
    rw [List.drop_zero, List.drop_take, List.take_take]
    congr 1
    omega
  have hS := un _ 31 _ _ rfl g1
  have hP := un _ 32 _ _ rfl g2
  have hF : ∀ i, i < 4 → ∃ b, l[33 + i]? = some (.bool b) := by
    obtain ⟨zs, m, _, _, _, hzl, hz⟩ := DataW.trod_struct under_fl' g3
    have hzl : zs.length = 4 := hzl.trans (by kernel_rfl)
    intro i hi
    have hfi : ([(4, 0), (4, 1), (4, 2), (4, 3)] : List (Nat × Nat))[i]? = some (4, i) := by
      have : i = 0 ∨ i = 1 ∨ i = 2 ∨ i = 3 := by omega
      rcases this with rfl | rfl | rfl | rfl <;> rfl
    obtain ⟨f, hf, tf, of⟩ := field_at fields_fl i _ _ hfi
    have h1 := hz i f hf
    rw [tf, of, show Tryz.prog.cellsOf 4 = 1 by kernel_rfl, List.getElem?_eq_getElem (show i < zs.length by omega)] at h1
    obtain ⟨b, e, _⟩ := DataW.trod_bool Tryz.underlying4 h1
    refine ⟨b, one_of_take ?_⟩
    rw [← e, List.drop_take, List.take_take, List.drop_drop]
    congr 1
    omega
  have hX2 : ∀ i, i < 33 → ∃ a, l[i]? = some (.int .u64 a) ∧ 0 ≤ a ∧ a < 18446744073709551616 := fun i hi => by
    by_cases h1 : i < 31
    · exact hX i h1
    · have : i = 31 ∨ i = 32 := by omega
      rcases this with rfl | rfl
      · exact hS
      · exact hP
  refine ⟨cpuOf l, ?_, ?_⟩
  · rw [CPU.a, cpuOf_l l hl (fun i hi => by obtain ⟨a, h, _⟩ := hX2 i hi; exact ⟨a, h⟩) (fun i h1 h2 => by
      obtain ⟨b, hb⟩ := hF (i - 33) (by omega)
      rw [show 33 + (i - 33) = i by omega] at hb
      exact ⟨b, hb⟩)]
  · have hu : ∀ i, i < 33 → 0 ≤ u64At l i ∧ u64At l i < 18446744073709551616 := fun i hi => by
      obtain ⟨a, h, h2⟩ := hX2 i hi
      unfold u64At; rw [h]; exact h2
    refine ⟨fun i => ?_, hu 31 (by decide), hu 32 (by decide)⟩
    show 0 ≤ (if i < 31 then u64At l i else 0) ∧ (if i < 31 then u64At l i else 0) < 18446744073709551616
    by_cases h1 : i < 31
    · rw [if_pos h1]; exact hu i (by omega)
    · rw [if_neg h1]; omega
theorem reg_put (c : CPU) (n : Int) (st : Bool) (v : Int) : (c.put n st v).reg n st = if n < 31 ∨ st = true then v else 0 := by
  unfold CPU.put CPU.reg
  by_cases h : n < 31
  · rw [if_pos h, if_pos h, if_pos (.inl h)]
    unfold CPU.setX
    simp
  · rw [if_neg h, if_neg h]
    cases st
    · rw [if_neg (by decide), if_neg (by simp [h])]
    · rw [if_pos rfl, if_pos rfl, if_pos (.inr rfl)]
theorem reg_other (c : CPU) (n k : Int) (st : Bool) (v : Int) (n0 : 0 ≤ n) (n1 : n ≤ 31) (k0 : 0 ≤ k) (k1 : k ≤ 31) (h : k ≠ n) : (c.put n st v).reg k st = c.reg k st := by
  unfold CPU.put CPU.reg
  by_cases hn : n < 31
  · rw [if_pos hn]
    unfold CPU.setX
    simp only
    by_cases hk : k < 31
    · rw [if_pos hk, if_pos hk, if_neg (by omega)]
    · rw [if_neg hk, if_neg hk]
  · rw [if_neg hn]
    have hk : k < 31 := by omega
    rw [if_pos hk, if_pos hk]
    cases st
    · rw [if_neg (by decide)]
    · rw [if_pos rfl]
theorem put_pc (c : CPU) (n : Int) (st : Bool) (v : Int) : (c.put n st v).pc = c.pc ∧ (c.put n st v).n = c.n ∧ (c.put n st v).z = c.z ∧ (c.put n st v).c = c.c ∧ (c.put n st v).v = c.v := by
  unfold CPU.put CPU.setX
  split
  · exact ⟨rfl, rfl, rfl, rfl, rfl⟩
  · split <;> exact ⟨rfl, rfl, rfl, rfl, rfl⟩
end Go.Proofs.YtblnfngigdipcaaGreatDoor.ST
namespace Go.Proofs.YtblnfngigdipcaaGreatDoor.Pure
open Go.RowKit Go.Proofs.YtblnfngigdipcaaGreatDoor.P Go.Proofs.YtblnfngigdipcaaGreatDoorW.PrintWords Go.Proofs.YtblnfngigdipcaaGreatDoorW.PrintLast Go.Proofs.YtblnfngigdipcaaGreatDoorW.PrintMore Go.Proofs.YtblnfngigdipcaaGreatDoor.ST
set_option linter.unusedVariables false
set_option linter.unusedSimpArgs false
theorem box_new (w : World) (c : CPU) : ((w.alloc (.cells CPU.zero.a 27)).setCells w.heap.size 0 c.l).heap[w.heap.size]? = some (.cells c.a 27 (0, 0)) ∧ Below w.heap.size w ((w.alloc (.cells CPU.zero.a 27)).setCells w.heap.size 0 c.l) := by
  have n4 := blk_sets c.l 0 (blk_new w (.cells CPU.zero.a 27))
  rw [CPU.sets_] at n4
  exact ⟨n4, below_sets (Nat.le_refl _) _ 0 (below_alloc (Below.refl _ _) _)⟩
attribute [-go_sem] Instr.loadAt Instr.storeAt in
set_option maxHeartbeats 4000000 in
set_option maxRecDepth 100000 in
theorem StepRegs_bad (c : CPU) (n k : Int) (st : Bool) (v : Int) (W : World) (hTab : TabW W) (h : n < 0 ∨ 31 < n) :
    Calls Tryz.prog 3 #[.agg c.a, .int .i64 n, .int .i64 k, .bool st, .int .u64 v] W fun e w' => e = .returned (.bool true) ∧ Below W.heap.size W w' := by
  have HT := aq hTab
  have HWT := aq (fun w => with_bad c n st v w h)
  have HC := aq (show (W.alloc (.cells c.a 27)).heap[W.heap.size]? = some (.cells c.a 27 (0, 0)) from blk_new W _)
  have hcond : (decide (n < 0) = true) ∨ (decide (n < 0) = false ∧ decide (n > 31) = true) := by
    by_cases h0 : n < 0
    · exact .inl (decide_eq_true h0)
    · exact .inr ⟨decide_eq_false h0, decide_eq_true (by omega)⟩
  clear hTab h
  rcases hcond with d1 | ⟨d1, d2⟩
  all_goals
    go_enter Tryz.func3, Tryz.ntmps3
    go_upto_region 2 with (first | ((with_reducible refine gate_dst (N := 20) rfl ?_); refine wpList_load_mid rfl 27 (.tmp 5) rfl W.heap.size 0 rfl c.l _ (c.range HC.out) under_cpu rfl info_cpu ?_) | (go_at_call 18; refine (HWT.out _).mono ?_; rintro e w1 ⟨rfl, hb⟩; have HB1 := aq (below_step (below_alloc (Below.refl W.heap.size W) _) hb); clear hb) | ((with_reducible refine gate_store (t := 27) (p := 11) (v := .tmp 25) rfl ?_); refine wpList_store_mid rfl 27 (.tmp 11) (.tmp 25) rfl w1.heap.size 0 CPU.zero.a rfl rfl (there_blk (blk_new w1 (.cells CPU.zero.a 27)) 0 37 (by decide)) info_cpu CPU.zero.one ?_))
    have hN := box_new w1 CPU.zero
    change Code.wp _ _ _ _ ((w1.alloc (.cells CPU.zero.a 27)).setCells w1.heap.size 0 CPU.zero.l)
    have HB2 := aq (below_step HB1.out hN.2)
    have HN := aq hN.1
    clear hN HB1
    generalize (w1.alloc (.cells CPU.zero.a 27)).setCells w1.heap.size 0 CPU.zero.l = w2 at *
    generalize w1.heap.size = N at *
    go_upto_region 3 with fail
    have heq := eq_zero
    simp only [CPU.a, CPU.l, CPU.zero] at heq
    go_wp2_with fail
    refine (stepped_calls _ (HT.out.below HB2.out)).mono ?_
    rintro e w3 ⟨rfl, hb⟩
    have hld := run_loadAt_mid w3 N 0 27 CPU.zero.l _ (CPU.range CPU.zero (blk_below HN.out hb)) under_cpu rfl info_cpu
    simp only [CPU.l, CPU.zero] at hld
    have HB3 := aq (below_step HB2.out hb)
    clear hb
    go_wp2
    go_ret
    exact ⟨rfl, HB3.out⟩
def regV (c : CPU) (k : Int) (st : Bool) : Int × Int := if 0 ≤ k ∧ k ≤ 31 then (c.reg k st, 0) else (0, 1)
theorem reg_any (c : CPU) (k : Int) (st : Bool) (w : World) : Calls Tryz.prog 20 #[.agg c.a, .int .i64 k, .bool st] w fun e w' => e = .returned (.tuple #[.int .u64 (regV c k st).1, .int .i64 (regV c k st).2]) ∧ Below w.heap.size w w' := by
  unfold regV
  by_cases h : 0 ≤ k ∧ k ≤ 31
  · rw [if_pos h]; exact reg_at c k st w h.1 h.2
  · rw [if_neg h]; exact reg_bad c k st w (by omega)
theorem regV_put (c : CPU) (n k : Int) (st : Bool) (v : Int) (n0 : 0 ≤ n) (n1 : n ≤ 31) : (regV (c.put n st v) k st).2 = (regV c k st).2 ∧ (k ≠ n → (regV (c.put n st v) k st).1 = (regV c k st).1) := by
  unfold regV
  by_cases h : 0 ≤ k ∧ k ≤ 31
  · rw [if_pos h, if_pos h]
    exact ⟨rfl, fun hk => reg_other c n k st v n0 n1 h.1 h.2 hk⟩
  · rw [if_neg h, if_neg h]
    exact ⟨rfl, fun _ => rfl⟩
set_option maxHeartbeats 4000000 in
set_option maxRecDepth 100000 in
theorem StepRegs_good (c : CPU) (n k : Int) (st : Bool) (v : Int) (W : World) (hTab : TabW W) (n0 : 0 ≤ n) (n1 : n ≤ 31) :
    Calls Tryz.prog 3 #[.agg c.a, .int .i64 n, .int .i64 k, .bool st, .int .u64 v] W fun e w' => e = .returned (.bool true) ∧ Below W.heap.size W w' := by
  have HT := aq hTab
  have HWT := aq (fun w => with_at c n st v w n0 n1)
  have HRA := aq (fun w => reg_at (c.put n st v) n st w n0 n1)
  have HRC := aq (fun w => reg_any c k st w)
  have HRD := aq (fun w => reg_any (c.put n st v) k st w)
  have HC := aq (show (W.alloc (.cells c.a 27)).heap[W.heap.size]? = some (.cells c.a 27 (0, 0)) from blk_new W _)
  obtain ⟨p1, p2, p3, p4, p5⟩ := put_pc c n st v
  have hrp := reg_put c n st v
  obtain ⟨hv2, hv1⟩ := regV_put c n k st v n0 n1
  have hNE := ne_fl c.n c.z c.c c.v
  have d1 : decide (n < 0) = false := decide_eq_false (by omega)
  have d2 : decide (n > 31) = false := decide_eq_false (by omega)
  generalize c.put n st v = d at *
  generalize d.reg n st = a at *
  generalize regV c k st = rc at *
  generalize regV d k st = rd at *
  obtain ⟨x, g⟩ := rc
  obtain ⟨y, g'⟩ := rd
  simp only at hv2 hv1
  subst hv2
  have hxy : (k == n) = true ∨ ((k == n) = false ∧ y = x) := by
    by_cases h : k = n
    · exact .inl (by simpa using h)
    · exact .inr ⟨by simpa using h, hv1 h⟩
  have hcase : (n < 31 ∧ a = v) ∨ (n = 31 ∧ st = true ∧ a = v) ∨ (n = 31 ∧ st = false ∧ a = 0) := by
    rw [hrp]
    by_cases h : n < 31
    · exact .inl ⟨h, if_pos (.inl h)⟩
    · cases st
      · exact .inr (.inr ⟨by omega, rfl, if_neg (by simp; omega)⟩)
      · exact .inr (.inl ⟨by omega, rfl, if_pos (.inr rfl)⟩)
  have P1 := aq p1
  have P2 := aq p2
  have P3 := aq p3
  have P4 := aq p4
  have P5 := aq p5
  clear hTab hrp hv1 p1 p2 p3 p4 p5
  rcases hcase with ⟨h31, rfl⟩ | ⟨rfl, rfl, rfl⟩ | ⟨rfl, rfl, rfl⟩
  · have d3 : (n == 31) = false := by simp; omega
    have d4 : decide (n < 31) = true := decide_eq_true h31
    clear n0 n1 h31
    go_enter Tryz.func3, Tryz.ntmps3
    go_upto_region 2 with (first | ((with_reducible refine gate_dst (N := 20) rfl ?_); refine wpList_load_mid rfl 27 (.tmp 5) rfl W.heap.size 0 rfl c.l _ (c.range HC.out) under_cpu rfl info_cpu ?_) | (go_at_call 18; refine (HWT.out _).mono ?_; rintro e w1 ⟨rfl, hb⟩; have HB1 := aq (below_step (below_alloc (Below.refl W.heap.size W) _) hb); have HC1 := aq (blk_below HC.out hb); clear hb) | ((with_reducible refine gate_store (t := 27) (p := 11) (v := .tmp 25) rfl ?_); refine wpList_store_mid rfl 27 (.tmp 11) (.tmp 25) rfl w1.heap.size 0 d.a rfl rfl (there_blk (blk_new w1 (.cells CPU.zero.a 27)) 0 37 (by decide)) info_cpu d.one ?_))
    have hN := box_new w1 d
    change Code.wp _ _ _ _ ((w1.alloc (.cells CPU.zero.a 27)).setCells w1.heap.size 0 d.l)
    have HB2 := aq (below_step HB1.out hN.2)
    have HN := aq hN.1
    have HC2 := aq (blk_below HC1.out hN.2)
    clear hN HB1 HC1 HC
    generalize (w1.alloc (.cells CPU.zero.a 27)).setCells w1.heap.size 0 d.l = w2 at *
    generalize w1.heap.size = N at *
    go_upto_region 4 with fail
    go_upto_region 5 with (first | ((with_reducible refine gate_dst (N := 44) rfl ?_); refine wpList_load_mid rfl 27 (.tmp 11) rfl N 0 rfl d.l _ (d.range HN.out) under_cpu rfl info_cpu ?_) | (go_at_call 20; refine (HRA.out _).mono ?_; rintro e w3 ⟨rfl, hb⟩; have HB3 := aq (below_step HB2.out hb); have HC3 := aq (blk_below HC2.out hb); have HN3 := aq (blk_below HN.out hb); clear hb))
    have e0 : w3.cell? ⟨N, 32, none⟩ = some (.int .u64 c.pc) := (blk_cell HN3.out 32).trans (by rw [← P1.out]; rfl)
    have e1 : w3.cell? ⟨N, 33, none⟩ = some (.bool c.n) := (blk_cell HN3.out 33).trans (by rw [← P2.out]; rfl)
    have e2 : w3.cell? ⟨N, 34, none⟩ = some (.bool c.z) := (blk_cell HN3.out 34).trans (by rw [← P3.out]; rfl)
    have e3 : w3.cell? ⟨N, 35, none⟩ = some (.bool c.c) := (blk_cell HN3.out 35).trans (by rw [← P4.out]; rfl)
    have e4 : w3.cell? ⟨N, 36, none⟩ = some (.bool c.v) := (blk_cell HN3.out 36).trans (by rw [← P5.out]; rfl)
    have f0 : w3.cell? ⟨W.heap.size, 32, none⟩ = some (.int .u64 c.pc) := (blk_cell HC3.out 32).trans rfl
    have f1 : w3.cell? ⟨W.heap.size, 33, none⟩ = some (.bool c.n) := (blk_cell HC3.out 33).trans rfl
    have f2 : w3.cell? ⟨W.heap.size, 34, none⟩ = some (.bool c.z) := (blk_cell HC3.out 34).trans rfl
    have f3 : w3.cell? ⟨W.heap.size, 35, none⟩ = some (.bool c.c) := (blk_cell HC3.out 35).trans rfl
    have f4 : w3.cell? ⟨W.heap.size, 36, none⟩ = some (.bool c.v) := (blk_cell HC3.out 36).trans rfl
    go_upto_region 7 with fail
    clear e0 e1 e2 e3 e4 f0 f1 f2 f3 f4
    go_upto_region 9 with (first | ((with_reducible refine gate_dst (N := 95) rfl ?_); refine wpList_load_mid rfl 27 (.tmp 5) rfl W.heap.size 0 rfl c.l _ (c.range HC3.out) under_cpu rfl info_cpu ?_) | ((with_reducible refine gate_dst (N := 102) rfl ?_); refine wpList_load_mid rfl 27 (.tmp 11) rfl N 0 rfl d.l _ (d.range HN4.out) under_cpu rfl info_cpu ?_) | (go_at_call_of 20 c; refine (HRC.out _).mono ?_; rintro e w4 ⟨rfl, hb⟩; have HB4 := aq (below_step HB3.out hb); have HN4 := aq (blk_below HN3.out hb); clear hb) | (go_at_call 20; refine (HRD.out _).mono ?_; rintro e w5 ⟨rfl, hb⟩; have HB5 := aq (below_step HB4.out hb); clear hb))
    rcases hxy with hk | ⟨hk, rfl⟩
    all_goals
      go_wp2_with fail
      refine (stepped_calls _ (HT.out.below HB5.out)).mono ?_
      rintro e w6 ⟨rfl, hb⟩
      have HB6 := aq (below_step HB5.out hb)
      clear hb
      go_wp2
      go_ret
      exact ⟨rfl, HB6.out⟩
  · clear n0 n1 d1 d2
    go_enter Tryz.func3, Tryz.ntmps3
    go_upto_region 2 with (first | ((with_reducible refine gate_dst (N := 20) rfl ?_); refine wpList_load_mid rfl 27 (.tmp 5) rfl W.heap.size 0 rfl c.l _ (c.range HC.out) under_cpu rfl info_cpu ?_) | (go_at_call 18; refine (HWT.out _).mono ?_; rintro e w1 ⟨rfl, hb⟩; have HB1 := aq (below_step (below_alloc (Below.refl W.heap.size W) _) hb); have HC1 := aq (blk_below HC.out hb); clear hb) | ((with_reducible refine gate_store (t := 27) (p := 11) (v := .tmp 25) rfl ?_); refine wpList_store_mid rfl 27 (.tmp 11) (.tmp 25) rfl w1.heap.size 0 d.a rfl rfl (there_blk (blk_new w1 (.cells CPU.zero.a 27)) 0 37 (by decide)) info_cpu d.one ?_))
    have hN := box_new w1 d
    change Code.wp _ _ _ _ ((w1.alloc (.cells CPU.zero.a 27)).setCells w1.heap.size 0 d.l)
    have HB2 := aq (below_step HB1.out hN.2)
    have HN := aq hN.1
    have HC2 := aq (blk_below HC1.out hN.2)
    clear hN HB1 HC1 HC
    generalize (w1.alloc (.cells CPU.zero.a 27)).setCells w1.heap.size 0 d.l = w2 at *
    generalize w1.heap.size = N at *
    go_upto_region 4 with fail
    go_upto_region 5 with (first | ((with_reducible refine gate_dst (N := 44) rfl ?_); refine wpList_load_mid rfl 27 (.tmp 11) rfl N 0 rfl d.l _ (d.range HN.out) under_cpu rfl info_cpu ?_) | (go_at_call 20; refine (HRA.out _).mono ?_; rintro e w3 ⟨rfl, hb⟩; have HB3 := aq (below_step HB2.out hb); have HC3 := aq (blk_below HC2.out hb); have HN3 := aq (blk_below HN.out hb); clear hb))
    have e0 : w3.cell? ⟨N, 32, none⟩ = some (.int .u64 c.pc) := (blk_cell HN3.out 32).trans (by rw [← P1.out]; rfl)
    have e1 : w3.cell? ⟨N, 33, none⟩ = some (.bool c.n) := (blk_cell HN3.out 33).trans (by rw [← P2.out]; rfl)
    have e2 : w3.cell? ⟨N, 34, none⟩ = some (.bool c.z) := (blk_cell HN3.out 34).trans (by rw [← P3.out]; rfl)
    have e3 : w3.cell? ⟨N, 35, none⟩ = some (.bool c.c) := (blk_cell HN3.out 35).trans (by rw [← P4.out]; rfl)
    have e4 : w3.cell? ⟨N, 36, none⟩ = some (.bool c.v) := (blk_cell HN3.out 36).trans (by rw [← P5.out]; rfl)
    have f0 : w3.cell? ⟨W.heap.size, 32, none⟩ = some (.int .u64 c.pc) := (blk_cell HC3.out 32).trans rfl
    have f1 : w3.cell? ⟨W.heap.size, 33, none⟩ = some (.bool c.n) := (blk_cell HC3.out 33).trans rfl
    have f2 : w3.cell? ⟨W.heap.size, 34, none⟩ = some (.bool c.z) := (blk_cell HC3.out 34).trans rfl
    have f3 : w3.cell? ⟨W.heap.size, 35, none⟩ = some (.bool c.c) := (blk_cell HC3.out 35).trans rfl
    have f4 : w3.cell? ⟨W.heap.size, 36, none⟩ = some (.bool c.v) := (blk_cell HC3.out 36).trans rfl
    go_upto_region 7 with fail
    clear e0 e1 e2 e3 e4 f0 f1 f2 f3 f4
    go_upto_region 9 with (first | ((with_reducible refine gate_dst (N := 95) rfl ?_); refine wpList_load_mid rfl 27 (.tmp 5) rfl W.heap.size 0 rfl c.l _ (c.range HC3.out) under_cpu rfl info_cpu ?_) | ((with_reducible refine gate_dst (N := 102) rfl ?_); refine wpList_load_mid rfl 27 (.tmp 11) rfl N 0 rfl d.l _ (d.range HN4.out) under_cpu rfl info_cpu ?_) | (go_at_call_of 20 c; refine (HRC.out _).mono ?_; rintro e w4 ⟨rfl, hb⟩; have HB4 := aq (below_step HB3.out hb); have HN4 := aq (blk_below HN3.out hb); clear hb) | (go_at_call 20; refine (HRD.out _).mono ?_; rintro e w5 ⟨rfl, hb⟩; have HB5 := aq (below_step HB4.out hb); clear hb))
    rcases hxy with hk | ⟨hk, rfl⟩
    all_goals
      go_wp2_with fail
      refine (stepped_calls _ (HT.out.below HB5.out)).mono ?_
      rintro e w6 ⟨rfl, hb⟩
      have HB6 := aq (below_step HB5.out hb)
      clear hb
      go_wp2
      go_ret
      exact ⟨rfl, HB6.out⟩
  · clear n0 n1 d1 d2
    go_enter Tryz.func3, Tryz.ntmps3
    go_upto_region 2 with (first | ((with_reducible refine gate_dst (N := 20) rfl ?_); refine wpList_load_mid rfl 27 (.tmp 5) rfl W.heap.size 0 rfl c.l _ (c.range HC.out) under_cpu rfl info_cpu ?_) | (go_at_call 18; refine (HWT.out _).mono ?_; rintro e w1 ⟨rfl, hb⟩; have HB1 := aq (below_step (below_alloc (Below.refl W.heap.size W) _) hb); have HC1 := aq (blk_below HC.out hb); clear hb) | ((with_reducible refine gate_store (t := 27) (p := 11) (v := .tmp 25) rfl ?_); refine wpList_store_mid rfl 27 (.tmp 11) (.tmp 25) rfl w1.heap.size 0 d.a rfl rfl (there_blk (blk_new w1 (.cells CPU.zero.a 27)) 0 37 (by decide)) info_cpu d.one ?_))
    have hN := box_new w1 d
    change Code.wp _ _ _ _ ((w1.alloc (.cells CPU.zero.a 27)).setCells w1.heap.size 0 d.l)
    have HB2 := aq (below_step HB1.out hN.2)
    have HN := aq hN.1
    have HC2 := aq (blk_below HC1.out hN.2)
    clear hN HB1 HC1 HC
    generalize (w1.alloc (.cells CPU.zero.a 27)).setCells w1.heap.size 0 d.l = w2 at *
    generalize w1.heap.size = N at *
    go_upto_region 4 with fail
    go_upto_region 5 with (first | ((with_reducible refine gate_dst (N := 44) rfl ?_); refine wpList_load_mid rfl 27 (.tmp 11) rfl N 0 rfl d.l _ (d.range HN.out) under_cpu rfl info_cpu ?_) | (go_at_call 20; refine (HRA.out _).mono ?_; rintro e w3 ⟨rfl, hb⟩; have HB3 := aq (below_step HB2.out hb); have HC3 := aq (blk_below HC2.out hb); have HN3 := aq (blk_below HN.out hb); clear hb))
    have e0 : w3.cell? ⟨N, 32, none⟩ = some (.int .u64 c.pc) := (blk_cell HN3.out 32).trans (by rw [← P1.out]; rfl)
    have e1 : w3.cell? ⟨N, 33, none⟩ = some (.bool c.n) := (blk_cell HN3.out 33).trans (by rw [← P2.out]; rfl)
    have e2 : w3.cell? ⟨N, 34, none⟩ = some (.bool c.z) := (blk_cell HN3.out 34).trans (by rw [← P3.out]; rfl)
    have e3 : w3.cell? ⟨N, 35, none⟩ = some (.bool c.c) := (blk_cell HN3.out 35).trans (by rw [← P4.out]; rfl)
    have e4 : w3.cell? ⟨N, 36, none⟩ = some (.bool c.v) := (blk_cell HN3.out 36).trans (by rw [← P5.out]; rfl)
    have f0 : w3.cell? ⟨W.heap.size, 32, none⟩ = some (.int .u64 c.pc) := (blk_cell HC3.out 32).trans rfl
    have f1 : w3.cell? ⟨W.heap.size, 33, none⟩ = some (.bool c.n) := (blk_cell HC3.out 33).trans rfl
    have f2 : w3.cell? ⟨W.heap.size, 34, none⟩ = some (.bool c.z) := (blk_cell HC3.out 34).trans rfl
    have f3 : w3.cell? ⟨W.heap.size, 35, none⟩ = some (.bool c.c) := (blk_cell HC3.out 35).trans rfl
    have f4 : w3.cell? ⟨W.heap.size, 36, none⟩ = some (.bool c.v) := (blk_cell HC3.out 36).trans rfl
    go_upto_region 7 with fail
    clear e0 e1 e2 e3 e4 f0 f1 f2 f3 f4
    go_upto_region 9 with (first | ((with_reducible refine gate_dst (N := 95) rfl ?_); refine wpList_load_mid rfl 27 (.tmp 5) rfl W.heap.size 0 rfl c.l _ (c.range HC3.out) under_cpu rfl info_cpu ?_) | ((with_reducible refine gate_dst (N := 102) rfl ?_); refine wpList_load_mid rfl 27 (.tmp 11) rfl N 0 rfl d.l _ (d.range HN4.out) under_cpu rfl info_cpu ?_) | (go_at_call_of 20 c; refine (HRC.out _).mono ?_; rintro e w4 ⟨rfl, hb⟩; have HB4 := aq (below_step HB3.out hb); have HN4 := aq (blk_below HN3.out hb); clear hb) | (go_at_call 20; refine (HRD.out _).mono ?_; rintro e w5 ⟨rfl, hb⟩; have HB5 := aq (below_step HB4.out hb); clear hb))
    rcases hxy with hk | ⟨hk, rfl⟩
    all_goals
      go_wp2_with fail
      refine (stepped_calls _ (HT.out.below HB5.out)).mono ?_
      rintro e w6 ⟨rfl, hb⟩
      have HB6 := aq (below_step HB5.out hb)
      clear hb
      go_wp2
      go_ret
      exact ⟨rfl, HB6.out⟩
theorem StepRegs_walk (a0 : CPU) (a1 a2 : Int) (a3 : Bool) (a4 : Int) (W : World) (w0 : a0.ok) (w1 : (Lit.int .i64 a1).wf = true) (w2 : (Lit.int .i64 a2).wf = true) (w4 : (Lit.int .u64 a4).wf = true) (hTab : TabW W) :
    Calls Tryz.prog 3 #[.agg a0.a, .int .i64 a1, .int .i64 a2, .bool a3, .int .u64 a4] W fun e w' => e = .returned (.bool true) ∧ Below W.heap.size W w' := by
  by_cases h : a1 < 0 ∨ 31 < a1
  · exact StepRegs_bad a0 a1 a2 a3 a4 W hTab h
  · exact StepRegs_good a0 a1 a2 a3 a4 W hTab (by omega) (by omega)
end Go.Proofs.YtblnfngigdipcaaGreatDoor.Pure
