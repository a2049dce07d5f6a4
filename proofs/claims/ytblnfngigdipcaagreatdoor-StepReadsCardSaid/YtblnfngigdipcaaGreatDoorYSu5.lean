/- Written for this claim by a program of this session: what the claim uses of lemmas and proved contracts of Go functions. -/
import Derived.Test.YtblnfngigdipcaaGreatDoorYSu4
import Derived.Deep.MidRow
namespace Go.Proofs.YtblnfngigdipcaaGreatDoor.ST
open Go.RowKit Go.Proofs.YtblnfngigdipcaaGreatDoor.P Go.Proofs.YtblnfngigdipcaaGreatDoorW.PrintWords Go.Proofs.YtblnfngigdipcaaGreatDoorW.PrintLast Go.Proofs.YtblnfngigdipcaaGreatDoorW.PrintMore
set_option linter.unusedVariables false
set_option linter.unusedSimpArgs false
structure CPU where
  x : Nat → Int
  sp : Int
  pc : Int
  n : Bool
  z : Bool
  c : Bool
  v : Bool
def CPU.l (c : CPU) : List Value := [.int .u64 (c.x 0), .int .u64 (c.x 1), .int .u64 (c.x 2), .int .u64 (c.x 3), .int .u64 (c.x 4), .int .u64 (c.x 5), .int .u64 (c.x 6), .int .u64 (c.x 7), .int .u64 (c.x 8), .int .u64 (c.x 9), .int .u64 (c.x 10), .int .u64 (c.x 11), .int .u64 (c.x 12), .int .u64 (c.x 13), .int .u64 (c.x 14), .int .u64 (c.x 15), .int .u64 (c.x 16), .int .u64 (c.x 17), .int .u64 (c.x 18), .int .u64 (c.x 19), .int .u64 (c.x 20), .int .u64 (c.x 21), .int .u64 (c.x 22), .int .u64 (c.x 23), .int .u64 (c.x 24), .int .u64 (c.x 25), .int .u64 (c.x 26), .int .u64 (c.x 27), .int .u64 (c.x 28), .int .u64 (c.x 29), .int .u64 (c.x 30), .int .u64 c.sp, .int .u64 c.pc, .bool c.n, .bool c.z, .bool c.c, .bool c.v]
def CPU.a (c : CPU) : Array Value := c.l.toArray
def CPU.zero : CPU := ⟨fun _ => 0, 0, 0, false, false, false, false⟩
def CPU.setX (c : CPU) (n : Nat) (v : Int) : CPU := { c with x := fun i => if i = n then v else c.x i }
theorem lt31 {n : Nat} (h : n < 31) : n = 0 ∨ n = 1 ∨ n = 2 ∨ n = 3 ∨ n = 4 ∨ n = 5 ∨ n = 6 ∨ n = 7 ∨ n = 8 ∨ n = 9 ∨ n = 10 ∨ n = 11 ∨ n = 12 ∨ n = 13 ∨ n = 14 ∨ n = 15 ∨ n = 16 ∨ n = 17 ∨ n = 18 ∨ n = 19 ∨ n = 20 ∨ n = 21 ∨ n = 22 ∨ n = 23 ∨ n = 24 ∨ n = 25 ∨ n = 26 ∨ n = 27 ∨ n = 28 ∨ n = 29 ∨ n = 30 := by omega
theorem CPU.get (c : CPU) {n : Nat} (h : n < 31) : c.a[n]? = some (.int .u64 (c.x n)) := by
  rcases lt31 h with rfl | rfl | rfl | rfl | rfl | rfl | rfl | rfl | rfl | rfl | rfl | rfl | rfl | rfl | rfl | rfl | rfl | rfl | rfl | rfl | rfl | rfl | rfl | rfl | rfl | rfl | rfl | rfl | rfl | rfl | rfl <;> rfl
theorem CPU.set (c : CPU) {n : Nat} (h : n < 31) (v : Int) : c.a.setIfInBounds n (.int .u64 v) = (c.setX n v).a := by
  rcases lt31 h with rfl | rfl | rfl | rfl | rfl | rfl | rfl | rfl | rfl | rfl | rfl | rfl | rfl | rfl | rfl | rfl | rfl | rfl | rfl | rfl | rfl | rfl | rfl | rfl | rfl | rfl | rfl | rfl | rfl | rfl | rfl <;> simp [CPU.a, CPU.l, CPU.setX]
theorem CPU.one (c : CPU) : c.a.all (·.oneCell') = true := by simp [CPU.a, CPU.l, Value.oneCell']
theorem info_cpu : (Tryz.prog.info? 27).map (·.size) = some 37 := by kernel_rfl
theorem CPU.size (c : CPU) : c.a.size = 37 := rfl
def CPU.reg (c : CPU) (n : Int) (st : Bool) : Int := if n < 31 then c.x n.toNat else if st = true then c.sp else 0
def CPU.put (c : CPU) (n : Int) (st : Bool) (v : Int) : CPU := if n < 31 then c.setX n.toNat v else if st = true then { c with sp := v } else c
theorem under_cpu : Tryz.prog.underlying 27 = some (.struct (match Tryz.prog.underlying 27 with | some (.struct fs) => fs | _ => #[])) := by kernel_rfl
theorem range_blk {w : World} {g : Nat} {t : TypeId} {cs : Array Value} {fr : Nat × Nat} (h : w.heap[g]? = some (.cells cs t fr)) (o : Nat) (vs : List Value) (hv : ∀ j v, vs[j]? = some v → cs[o + j]? = some v) : w.rangeAt g o vs :=
  fun j v hj => (cell_of_row w g (o + j) cs t fr h).trans (hv j v hj)
theorem there_blk {w : World} {g : Nat} {t : TypeId} {cs : Array Value} (h : w.heap[g]? = some (.cells cs t (0, 0))) (o n : Nat) (hn : o + n ≤ cs.size) : w.there g o n :=
  fun j hj => ⟨by rw [blk_cell h, Array.getElem?_eq_getElem (by omega)]; rfl, blk_frozen h _⟩
def sets (A : Array Value) : Nat → List Value → Array Value
  | _, [] => A
  | o, v :: vs => sets (A.setIfInBounds o v) (o + 1) vs
theorem blk_sets {g : Nat} {t : TypeId} : ∀ (vs : List Value) (o : Nat) {w : World} {A : Array Value}, w.heap[g]? = some (.cells A t (0, 0)) → (w.setCells g o vs).heap[g]? = some (.cells (sets A o vs) t (0, 0))
  | [], _, _, _, h => h
  | v :: vs, o, _, _, h => blk_sets vs (o + 1) (blk_set h o v)
theorem blk_sets_far {g b : Nat} {ob : Obj} : ∀ (vs : List Value) (o : Nat) {w : World}, g ≠ b → w.heap[g]? = some ob → (w.setCells b o vs).heap[g]? = some ob
  | [], _, _, _, h => h
  | v :: vs, o, w, hn, h => blk_sets_far vs (o + 1) hn ((Below.heap_setCell w ⟨b, o, none⟩ v g hn).trans h)
theorem below_sets {B b : Nat} {u : World} (hb : B ≤ b) : ∀ (vs : List Value) (o : Nat) {w : World}, Below B u w → Below B u (w.setCells b o vs)
  | [], _, _, h => h
  | v :: vs, o, _, h => below_sets hb vs (o + 1) (h.setCell hb v)
theorem size_sets (b : Nat) : ∀ (vs : List Value) (o : Nat) (w : World), (w.setCells b o vs).heap.size = w.heap.size
  | [], _, _ => rfl
  | v :: vs, o, w => (size_sets b vs (o + 1) (w.setCell ⟨b, o, none⟩ v)).trans (by simp)
theorem reg_at (c : CPU) (n : Int) (st : Bool) (w : World) (h0 : 0 ≤ n) (h1 : n ≤ 31) :
    Calls Tryz.prog 20 #[.agg c.a, .int .i64 n, .bool st] w fun e w' => e = .returned (.tuple #[.int .u64 (c.reg n st), .int .i64 0]) ∧ Below w.heap.size w w' := by
  unfold CPU.reg
  by_cases h : n < 31
  · rw [if_pos h]
    have hc : (w.alloc (.cells c.a 27)).cell? ⟨w.heap.size, n.toNat, none⟩ = some (.int .u64 (c.x n.toNat)) := (blk_cell (blk_new w _) _).trans (c.get (by omega))
    have d1 : ¬ n < 0 := by omega
    have d2 : ¬ 31 < n := by omega
    generalize c.a = a at *
    generalize c.x n.toNat = v at *
    go_enter Tryz.func20, Tryz.ntmps20
    go_wp2
    go_ret2
    exact ⟨rfl, below_alloc (Below.refl _ _) _⟩
  · rw [if_neg h]
    obtain rfl : n = 31 := by omega
    have hs : (w.alloc (.cells c.a 27)).cell? ⟨w.heap.size, 31, none⟩ = some (.int .u64 c.sp) := (blk_cell (blk_new w _) _).trans rfl
    cases st
    · generalize c.a = a at *
      go_enter Tryz.func20, Tryz.ntmps20
      go_wp2
      go_ret2
      exact ⟨rfl, below_alloc (Below.refl _ _) _⟩
    · generalize c.a = a at *
      rw [if_pos rfl]
      generalize c.sp = v at *
      go_enter Tryz.func20, Tryz.ntmps20
      go_wp2
      go_ret2
      exact ⟨rfl, below_alloc (Below.refl _ _) _⟩
theorem CPU.range (c : CPU) {w : World} {b : Nat} {t : TypeId} {fr : Nat × Nat} (h : w.heap[b]? = some (.cells c.a t fr)) : w.rangeAt b 0 c.l := range_blk h 0 c.l fun j v hj => by rw [Nat.zero_add]; simpa [CPU.a] using hj
theorem CPU.sets_ (c d : CPU) : sets d.a 0 c.l = c.a := by simp [sets, CPU.a, CPU.l]
theorem CPU.put_31 (c : CPU) (st : Bool) (v : Int) : c.put 31 st v = if st = true then { c with sp := v } else c := if_neg (by decide)
section
variable {ops : Array Oper} {rest : List Oper} {o : Oper} {a : Act} {Q : Exit → Act → World → Prop} {w : World}
theorem build_cpu0 (hg : o.guard = none) (ho : o.op = .build 27 #[]) (h : wpList Tryz.prog ops Q rest (a.put o.dst (.agg CPU.zero.a)) w) : wpList Tryz.prog ops Q (o :: rest) a w := by
  have e : (Tryz.prog.built 27 (((#[] : Array (Nat × Operand)).map fun (i, x) => (i, a.eval x)).toList)) = some CPU.zero.a := by
    rw [Array.map_empty]; kernel_rfl
  refine wpList_build hg 27 #[] ho (by rw [e]; rfl) ?_
  rw [e]
  exact h
end
section
variable {P : Program}
theorem exec_load {oi : Oper} {a : Act} {w : World} {v : Value} {t : TypeId} {p : Operand} (hop : oi.op = .load t p) (hrun : Sem.run P (Instr.loadAt t (a.eval p)) w = .ok v w) : (execOp a.eval oi).run P w = .ok (.value v) w := by
  unfold execOp
  simp [hop, hrun, Result.andThen]
theorem exec_store {oi : Oper} {a : Act} {w w1 : World} {t : TypeId} {m v : Operand} (hop : oi.op = .store t m v) (hrun : Sem.run P (Instr.storeAt t (a.eval m) (a.eval v)) w = .ok () w1) : (execOp a.eval oi).run P w = .ok .skip w1 := by
  unfold execOp
  simp [hop, hrun, Result.andThen]
end
section
variable {P : Program} {md : Region.Mode} {ops : Array Oper} {ds : List Nat} {S : World → Prop} {Q : Exit → Act → World → Prop}
theorem pu_ {i : Nat} {oi : Oper} {N : Option Tmp} {v : Value} {fuel : Nat} {l : Array Bool} {a : Act} {w : World} (hc : anyB md ops l (l.setIfInBounds i true) i = true) (hi : ops[i]? = some oi) (hN : oi.dst = N) (hw : Region.wanted oi (yielded ops a.tmps) = true)
    (hQ : ∀ c a w, Q (.panic c) (a.put N v) w → Q (.panic c) a w) (hy : ∀ w, (execOp a.eval oi).run P w = .ok (.value v) w)
    (h : wpAnyLast P md ops Q S ds fuel (l.setIfInBounds i true) (a.put N v) w) : wpAnyLast P md ops Q S ds (fuel + 1) l a w := pure_ _ hi hN hc (by rw [hN]; exact hQ) (.inl ⟨hw, hy⟩) rfl h
theorem tk_ {i : Nat} {N : Tmp} {t : TypeId} {p : Operand} {v : Value} {fuel : Nat} {l : Array Bool} {a : Act} {w : World} (hc : takeB md ops ds l (l.setIfInBounds i true) i = true) (hop : (ops[i]?).map (fun o => (o.dst, o.op, o.guard)) = some (some N, .load t p, none))
    (hQ : ∀ c a w, Q (.panic c) (a.put (some N) v) w → Q (.panic c) a w) (hS : S w) (hy : ∀ w, S w → Sem.run P (Instr.loadAt t (a.eval p)) w = .ok v w)
    (h : wpAnyLast P md ops Q S ds fuel (l.setIfInBounds i true) (a.put (some N) v) w) : wpAnyLast P md ops Q S ds (fuel + 1) l a w := by
  cases hi : ops[i]? with
  | none => rw [hi] at hop; cases hop
  | some oi =>
    rw [hi] at hop
    simp only [Option.map_some, Option.some.injEq, Prod.mk.injEq] at hop
    obtain ⟨h1, h2, h3⟩ := hop
    refine take_ _ hi h1 hc (by rw [h1]; exact hQ) (.inl ⟨by unfold Region.wanted; rw [h3], fun w' hw => ?_⟩) hS rfl h
    unfold execOp
    simp [h2, hy w' hw, Result.andThen]
theorem cl_ {i : Nat} {oi : Oper} {N : Option Tmp} {fuel : Nat} {l : Array Bool} {a : Act} {w : World} (f : FuncId) (args : Array Value) {R : Ending → World → Prop} (hc : readyB md ops l (l.setIfInBounds i true) i = true) (hi : ops[i]? = some oi) (hN : oi.dst = N) (hd : i ∉ ds)
    (hw : Region.wanted oi (yielded ops a.tmps) = true) (hrun : (execOp a.eval oi).run P w = .ok (.enter f args) w) (hcall : Calls P f args w R)
    (h : ∀ e w', R e w' → ∃ v, e = .returned v ∧ S w' ∧ (S w' → wpAnyLast P md ops Q S ds fuel (l.setIfInBounds i true) (a.put N v) w')) : wpAnyLast P md ops Q S ds (fuel + 1) l a w :=
  one_ _ hi hN hc hd fun K hK => call_ f args hw hN hrun (hcall.mono fun e w' hr => by
    obtain ⟨v, e1, e2, e3⟩ := h e w' hr
    exact ⟨v, e1, hK.out _ _ e2 e3⟩)
theorem ls_ {i : Nat} {t : TypeId} {p x : Operand} {fuel : Nat} {l : Array Bool} {a : Act} {w : World} {w1 : World} (hc : readyB md ops l (l.setIfInBounds i true) i = true) (hop : (ops[i]?).map (fun o => (o.dst, o.op, o.guard)) = some (none, .store t p x, none)) (hd : i ∈ ds)
    (hrun : Sem.run P (Instr.storeAt t (a.eval p) (a.eval x)) w = .ok () w1) (h : wpAnyLast P md ops Q S ds fuel (l.setIfInBounds i true) a w1) : wpAnyLast P md ops Q S ds (fuel + 1) l a w := by
  cases hi : ops[i]? with
  | none => rw [hi] at hop; cases hop
  | some oi =>
    rw [hi] at hop
    simp only [Option.map_some, Option.some.injEq, Prod.mk.injEq] at hop
    obtain ⟨h1, h2, h3⟩ := hop
    refine last_ _ hi h1 hc hd fun K hK => ?_
    rw [if_pos (by unfold Region.wanted; rw [h3])]
    unfold Oper.wp
    rw [exec_store h2 hrun]
    show K (a.put oi.dst undef) w1
    rw [h1]
    exact hK.out _ _ h
end
theorem two_new (w : World) (o1 o2 : Obj) : ∃ W, W = (w.alloc o1).alloc o2 ∧ W.heap[w.heap.size]? = some o1 ∧ W.heap[w.heap.size + 1]? = some o2 ∧ Below w.heap.size w W := by
  refine ⟨_, rfl, blk_alloc (blk_new w o1) o2, ?_, below_alloc (below_alloc (Below.refl _ _) _) _⟩
  have e : w.heap.size + 1 = (w.alloc o1).heap.size := by show _ = (w.heap.push o1).size; rw [Array.size_push]
  rw [e]
  exact blk_new _ o2
set_option maxRecDepth 100000 in
theorem with_at (c : CPU) (n : Int) (st : Bool) (v : Int) (w : World) (h0 : 0 ≤ n) (h1 : n ≤ 31) :
    Calls Tryz.prog 18 #[.agg c.a, .int .i64 n, .bool st, .int .u64 v] w fun e w' => e = .returned (.tuple #[.agg (c.put n st v).a, .int .i64 0]) ∧ Below w.heap.size w w' := by
  by_cases h : n < 31
  · have hp : c.put n st v = c.setX n.toNat v := if_pos h
    rw [hp]
    have hget := c.get (n := n.toNat) (by omega)
    have HSET := aq (c.set (n := n.toNat) (by omega) v)
    have d1 : ¬ n < 0 := by omega
    have d2 : ¬ 31 < n := by omega
    clear hp
    obtain ⟨W, hW, hA, hZ, hB⟩ := two_new w (.cells c.a 27) (.cells CPU.zero.a 27)
    have HA := aq (blk_set hA n.toNat (.int .u64 v))
    have HZ := aq (blk_far hZ (p := ⟨w.heap.size, n.toNat, none⟩) (by show w.heap.size + 1 ≠ w.heap.size; omega) (.int .u64 v))
    have HB := aq (below_set (j := n.toNat) (v := .int .u64 v) hB (Nat.le_refl w.heap.size))
    have hc := (blk_cell hA n.toNat).trans hget
    have hf := blk_frozen hA n.toNat
    have HW := aq hW
    clear hW
    clear hget hA hZ hB
    generalize hR : c.setX n.toNat v = c' at *
    generalize c.a = a at *
    generalize c.x n.toNat = u at *
    clear hR
    go_enter Tryz.func18, Tryz.ntmps18
    go_upto_region 1 with fail
    change Code.wp _ _ _ _ ((w.alloc (.cells a 27)).alloc (.cells CPU.zero.a 27))
    rw [← HW.out]
    clear HW
    go_upto_region 7 with fail
    clear hc hf
    have hA := HA.out
    rw [HSET.out] at hA
    have HB2 := aq hA
    clear hA
    generalize W.setCell ⟨w.heap.size, n.toNat, none⟩ (.int .u64 v) = W1 at *
    refine wp_region_lit ?_
    refine wpList_load_mid rfl 27 (.tmp 4) rfl w.heap.size 0 rfl c'.l _ (c'.range HB2.out) under_cpu rfl info_cpu ?_
    simp only [Act.put, List.setIfInBounds_toArray, List.set_cons_zero, List.set_cons_succ]
    refine wpList_store_mid rfl 27 (.tmp 8) (.tmp 29) rfl (w.heap.size + 1) 0 c'.a rfl rfl (there_blk HZ.out 0 37 (by decide)) info_cpu c'.one ?_
    have F3 := aq (blk_sets c'.l 0 HZ.out)
    rw [CPU.sets_] at F3
    have F4 := aq (below_sets (Nat.le_succ w.heap.size) c'.l 0 HB.out)
    go_wp2
    refine bodyPost_ret (results_list (rs := [.cell 8 27, .tmp 9]) rfl (by simp) (.cell (w.heap.size + 1) 27 c'.a (0, 0) _ rfl F3.out under_cpu rfl info_cpu (.tmp .nil))) rfl ⟨rfl, F4.out⟩
  · obtain rfl : n = 31 := by omega
    rw [CPU.put_31]
    obtain ⟨W, hW, hA, hZ, hB⟩ := two_new w (.cells c.a 27) (.cells CPU.zero.a 27)
    have HW := aq hW
    clear hW h h0 h1
    cases st
    · rw [if_neg (by decide)]
      have HA := aq hA
      have HZ := aq hZ
      have HB := aq hB
      clear hA hZ hB
      go_enter Tryz.func18, Tryz.ntmps18
      go_upto_region 1 with fail
      change Code.wp _ _ _ _ ((w.alloc (.cells c.a 27)).alloc (.cells CPU.zero.a 27))
      rw [← HW.out]
      clear HW
      go_upto_region 7 with fail
      refine wp_region_lit ?_
      refine wpList_load_mid rfl 27 (.tmp 4) rfl w.heap.size 0 rfl c.l _ (c.range HA.out) under_cpu rfl info_cpu ?_
      simp only [Act.put, List.setIfInBounds_toArray, List.set_cons_zero, List.set_cons_succ]
      refine wpList_store_mid rfl 27 (.tmp 8) (.tmp 29) rfl (w.heap.size + 1) 0 c.a rfl rfl (there_blk HZ.out 0 37 (by decide)) info_cpu c.one ?_
      have F3 := aq (blk_sets c.l 0 HZ.out)
      rw [CPU.sets_] at F3
      have F4 := aq (below_sets (Nat.le_succ w.heap.size) c.l 0 HB.out)
      go_wp2
      refine bodyPost_ret (results_list (rs := [.cell 8 27, .tmp 9]) rfl (by simp) (.cell (w.heap.size + 1) 27 c.a (0, 0) _ rfl F3.out under_cpu rfl info_cpu (.tmp .nil))) rfl ⟨rfl, F4.out⟩
    · rw [if_pos rfl]
      have HA := aq (blk_put hA 31 (.int .u64 v) (cs' := ({ c with sp := v } : CPU).a) rfl)
      have HZ := aq (blk_far hZ (p := ⟨w.heap.size, 31, none⟩) (by show w.heap.size + 1 ≠ w.heap.size; omega) (.int .u64 v))
      have HB := aq (below_set (j := 31) (v := .int .u64 v) hB (Nat.le_refl w.heap.size))
      have hc : W.cell? ⟨w.heap.size, 31, none⟩ = some (.int .u64 c.sp) := (blk_cell hA 31).trans rfl
      have hf := blk_frozen hA 31
      clear hA hZ hB
      generalize ({ c with sp := v } : CPU) = c' at *
      go_enter Tryz.func18, Tryz.ntmps18
      go_upto_region 1 with fail
      change Code.wp _ _ _ _ ((w.alloc (.cells c.a 27)).alloc (.cells CPU.zero.a 27))
      rw [← HW.out]
      clear HW
      go_upto_region 7 with fail
      clear hc hf
      generalize W.setCell ⟨w.heap.size, 31, none⟩ (.int .u64 v) = W1 at *
      refine wp_region_lit ?_
      refine wpList_load_mid rfl 27 (.tmp 4) rfl w.heap.size 0 rfl c'.l _ (c'.range HA.out) under_cpu rfl info_cpu ?_
      simp only [Act.put, List.setIfInBounds_toArray, List.set_cons_zero, List.set_cons_succ]
      refine wpList_store_mid rfl 27 (.tmp 8) (.tmp 29) rfl (w.heap.size + 1) 0 c'.a rfl rfl (there_blk HZ.out 0 37 (by decide)) info_cpu c'.one ?_
      have F3 := aq (blk_sets c'.l 0 HZ.out)
      rw [CPU.sets_] at F3
      have F4 := aq (below_sets (Nat.le_succ w.heap.size) c'.l 0 HB.out)
      go_wp2
      refine bodyPost_ret (results_list (rs := [.cell 8 27, .tmp 9]) rfl (by simp) (.cell (w.heap.size + 1) 27 c'.a (0, 0) _ rfl F3.out under_cpu rfl info_cpu (.tmp .nil))) rfl ⟨rfl, F4.out⟩
structure INS where
  o : Int
  d : Int
  n : Int
  m : Int
  a : Int
  im : Int
  ms : Int
  sh : Int
  am : Int
  cd : Int
def INS.v (i : INS) : Array Value := #[.int .i64 i.o, .int .i64 i.d, .int .i64 i.n, .int .i64 i.m, .int .i64 i.a, .int .i64 i.im, .int .u64 i.ms, .int .i64 i.sh, .int .i64 i.am, .int .i64 i.cd]
def macA (c : CPU) (mp : Value) (i : INS) (t : Value) : Array Value := (c.l ++ [mp, .int .i64 i.o, .int .i64 i.d, .int .i64 i.n, .int .i64 i.m, .int .i64 i.a, .int .i64 i.im, .int .u64 i.ms, .int .i64 i.sh, .int .i64 i.am, .int .i64 i.cd, t]).toArray
theorem macA_cpu (c : CPU) (mp : Value) (i : INS) (t : Value) (j : Nat) (v : Value) (h : c.l[j]? = some v) : (macA c mp i t)[j]? = some v := by
  have hj : j < c.l.length := (List.getElem?_eq_some_iff.1 h).1
  unfold macA
  rw [List.getElem?_toArray, List.getElem?_append_left hj]
  exact h
theorem macA_sets (c c' : CPU) (mp : Value) (i : INS) (t : Value) : sets (macA c mp i t) 0 c'.l = macA c' mp i t := by simp [sets, macA, CPU.l]
def Mac (w : World) (M : Nat) (c : CPU) (mp : Value) (i : INS) (t : Value) : Prop := w.heap[M]? = some (.cells (macA c mp i t) 143 (0, 0))
theorem Mac.below {w w' : World} {M : Nat} {c : CPU} {mp : Value} {i : INS} {t : Value} (h : Mac w M c mp i t) (hb : Below w.heap.size w w') : Mac w' M c mp i t := blk_below h hb
theorem Mac.range {w : World} {M : Nat} {c : CPU} {mp : Value} {i : INS} {t : Value} (h : Mac w M c mp i t) : w.rangeAt M 0 c.l := range_blk h 0 c.l fun j v hj => by rw [Nat.zero_add]; exact macA_cpu c mp i t j v hj
theorem Mac.cell {w : World} {M : Nat} {c : CPU} {mp : Value} {i : INS} {t : Value} (h : Mac w M c mp i t) (j : Nat) : w.cell? ⟨M, j, none⟩ = (macA c mp i t)[j]? := blk_cell h j
theorem Mac.free {w : World} {M : Nat} {c : CPU} {mp : Value} {i : INS} {t : Value} (h : Mac w M c mp i t) (j : Nat) : w.frozen? ⟨M, j, none⟩ = false := blk_frozen h j
structure Only (w w' : World) (M : Nat) : Prop where
  block : ∀ k, k < w.heap.size → k ≠ M → w'.heap[k]? = w.heap[k]?
  size : w.heap.size ≤ w'.heap.size
  below : ∀ (B : Nat) (U : World), Below B U w → B ≤ M → B ≤ w.heap.size → Below B U w'
theorem Only.of_below {w w' : World} (M : Nat) (h : Below w.heap.size w w') : Only w w' M := ⟨fun k hk _ => h.block k hk, h.size, fun B U hu _ hs => hu.trans (h.mono hs)⟩
theorem Only.trans {w w1 w2 : World} {M : Nat} (h : Only w w1 M) (g : Only w1 w2 M) : Only w w2 M where
  block := fun k hk hn => (g.block k (Nat.lt_of_lt_of_le hk h.size) hn).trans (h.block k hk hn)
  size := Nat.le_trans h.size g.size
  below := fun B U hu hl hs => g.below B U (h.below B U hu hl hs) hl (Nat.le_trans hs h.size)
theorem Only.set (w : World) (M j : Nat) (v : Value) : Only w (w.setCell ⟨M, j, none⟩ v) M :=
  ⟨fun k _ hn => Below.heap_setCell w ⟨M, j, none⟩ v k hn, by simp, fun B U hu hl _ => hu.setCell hl v⟩
theorem Only.sets (w : World) (M o : Nat) (vs : List Value) : Only w (w.setCells M o vs) M where
  block := fun k hk hn => by
    have := blk_sets_far (b := M) vs o hn (Array.getElem?_eq_getElem hk)
    rw [this, Array.getElem?_eq_getElem hk]
  size := Nat.le_of_eq (size_sets M vs o w).symm
  below := fun B U hu hl _ => below_sets hl vs o hu
set_option maxRecDepth 100000 in
theorem get_at (c : CPU) (mp : Value) (i : INS) (t : Value) (M : Nat) (n : Int) (st : Bool) (w : World) (hm : Mac w M c mp i t) (h0 : 0 ≤ n) (h1 : n ≤ 31) :
    Calls Tryz.prog 160 #[.pointer (some ⟨M, 0, none⟩), .int .i64 n, .bool st] w fun e w' => e = .returned (.int .u64 (c.reg n st)) ∧ Below w.heap.size w w' := by
  have HM := aq hm
  have HR := aq (fun w => reg_at c n st w h0 h1)
  clear hm h0 h1
  generalize c.reg n st = r at *
  go_enter Tryz.func160, Tryz.ntmps160
  go_wp2_with (first | ((with_reducible refine gate_dst (N := 13) rfl ?_); refine wpList_load_mid rfl 27 (.tmp 12) rfl M 0 rfl c.l _ HM.out.range under_cpu rfl info_cpu ?_) | (go_at_call 20; refine (HR.out _).mono ?_; rintro e w1 ⟨rfl, hb⟩; have HB := aq hb; clear hb))
  trace_state
  go_ret
  exact ⟨rfl, HB.out⟩
theorem Mac.load27 {w : World} {M : Nat} {c : CPU} {mp : Value} {i : INS} {t : Value} (h : Mac w M c mp i t) : Sem.run Tryz.prog (Instr.loadAt 27 (.pointer (some ⟨M, 0, none⟩))) w = .ok (.agg c.a) w := run_loadAt_mid w M 0 27 c.l _ h.range under_cpu rfl info_cpu
theorem Mac.store27 {w : World} {M : Nat} {c : CPU} {mp : Value} {i : INS} {t : Value} (h : Mac w M c mp i t) (c' : CPU) : Sem.run Tryz.prog (Instr.storeAt 27 (.pointer (some ⟨M, 0, none⟩)) (.agg c'.a)) w = .ok () (w.setCells M 0 c'.l) := run_storeAt_mid w M 0 27 c'.a (there_blk h 0 37 (by simp [macA, CPU.l])) info_cpu c'.one
theorem Mac.sets {w : World} {M : Nat} {c : CPU} {mp : Value} {i : INS} {t : Value} (h : Mac w M c mp i t) (c' : CPU) : Mac (w.setCells M 0 c'.l) M c' mp i t := by
  have := blk_sets c'.l 0 h
  rw [macA_sets] at this
  exact this
theorem load_int (M j : Nat) (v : Int) (w : World) (h : w.cell? ⟨M, j, none⟩ = some (.int .i64 v)) : Sem.run Tryz.prog (Instr.loadAt 3 (.pointer (some ⟨M, j, none⟩))) w = .ok (.int .i64 v) w := by go_simp
theorem load_u64 (M j : Nat) (v : Int) (w : World) (h : w.cell? ⟨M, j, none⟩ = some (.int .u64 v)) : Sem.run Tryz.prog (Instr.loadAt 22 (.pointer (some ⟨M, j, none⟩))) w = .ok (.int .u64 v) w := by go_simp
def putR.T : Bool × List (List Nat × List Nat) := (true, [([], []), ([], []), ([1], [1]), ([2], [2]), ([3], [3]), ([], []), ([5], [5]), ([6], [6]), ([7], [7]), ([8], [8]), ([], []), ([], []), ([4, 9, 10, 11], [4, 9, 10, 11]), ([12], [12]), ([13], [13]), ([13], [13]), ([0, 0, 1, 2, 3, 4, 5, 6, 7, 8, 9, 10, 11, 12, 13, 14], [0]), ([16, 0, 1, 2, 3, 4, 5, 6, 7, 8, 9, 10, 11, 12, 13, 14], [16]), ([17, 14, 12, 0, 1, 2, 3, 4, 5, 6, 7, 8, 9, 10, 11, 12, 13, 14], [14, 17])])
def putR.B : List Nat := [0, 0, 2, 6, 14, 0, 32, 96, 224, 480, 0, 0, 4094, 8190, 16382, 16382, 32767, 98303, 229375]
theorem putR.tab : rtab .any (opsOf Tryz.f164 0) = putR.T := by kernel_rfl
theorem putR.bits : waitsOk putR.T.2 putR.B = true := by kernel_rfl
set_option maxHeartbeats 100000 in
set_option maxRecDepth 100000 in
theorem put_at (c : CPU) (mp : Value) (i : INS) (t : Value) (M : Nat) (v : Int) (st : Bool) (w : World) (hm : Mac w M c mp i t) (h0 : 0 ≤ i.d) (h1 : i.d ≤ 31) :
    Calls Tryz.prog 164 #[.pointer (some ⟨M, 0, none⟩), .int .u64 v, .bool st] w fun e w' => e = .returned (.tuple #[]) ∧ Only w w' M ∧ Mac w' M (c.put i.d st v) mp i t := by
  have HM := aq hm
  have HR := aq (fun w => with_at c i.d st v w h0 h1)
  have hl27 := fun (w' : World) (h : Mac w' M c mp i t) => h.load27
  have hl3 := fun (w' : World) (h : Mac w' M c mp i t) => load_int M 39 i.d w' ((h.cell 39).trans rfl)
  have hs27 := fun (w' : World) (h : Mac w' M c mp i t) => h.store27 (c.put i.d st v)
  clear hm h0 h1
  generalize c.put i.d st v = c' at *
  generalize i.d = d at hl3 HR
  go_enter Tryz.func164, Tryz.ntmps164
  go_wp2
  have HS27 := aq hs27
  clear hs27
  refine start_ (n := 19) (S := fun w' => Mac w' M c mp i t) (ds := [18]) #[false, false, false, false, false, false, false, false, false, false, false, false, false, false, false, false, false, false, false] (by kernel_rfl) rfl rfl HM.out (fun hHeld => ?_); refine with_tabW putR.tab putR.bits (fun HT_ HW_ => ?_)
  refine pu_ (i := 0) (N := some 7) (v := _) (any_of HT_.out (by kernel_rfl)) rfl rfl (by rfl) (fun _ _ _ h => h) (fun w' => by go_simp; with_reducible rfl) ?_; simp only [Act.put, List.setIfInBounds_toArray, List.set_cons_zero, List.set_cons_succ]
  refine pu_ (i := 1) (N := some 8) (v := _) (any_of HT_.out (by kernel_rfl)) rfl rfl (by rfl) (fun _ _ _ h => h) (fun w' => by go_simp; with_reducible rfl) ?_; simp only [Act.put, List.setIfInBounds_toArray, List.set_cons_zero, List.set_cons_succ]
  refine pu_ (i := 2) (N := some 9) (v := _) (any_of HT_.out (by kernel_rfl)) rfl rfl (by rfl) (fun _ _ _ h => h) (fun w' => by go_simp; with_reducible rfl) ?_; simp only [Act.put, List.setIfInBounds_toArray, List.set_cons_zero, List.set_cons_succ]
  refine pu_ (i := 3) (N := some 10) (v := _) (any_of HT_.out (by kernel_rfl)) rfl rfl (by rfl) (fun _ _ _ h => h) (fun w' => by go_simp; with_reducible rfl) ?_; simp only [Act.put, List.setIfInBounds_toArray, List.set_cons_zero, List.set_cons_succ]
  refine pu_ (i := 5) (N := some 12) (v := _) (any_of HT_.out (by kernel_rfl)) rfl rfl (by rfl) (fun _ _ _ h => h) (fun w' => by go_simp; with_reducible rfl) ?_; simp only [Act.put, List.setIfInBounds_toArray, List.set_cons_zero, List.set_cons_succ]
  refine pu_ (i := 6) (N := some 13) (v := _) (any_of HT_.out (by kernel_rfl)) rfl rfl (by rfl) (fun _ _ _ h => h) (fun w' => by go_simp; with_reducible rfl) ?_; simp only [Act.put, List.setIfInBounds_toArray, List.set_cons_zero, List.set_cons_succ]
  refine pu_ (i := 7) (N := some 14) (v := _) (any_of HT_.out (by kernel_rfl)) rfl rfl (by rfl) (fun _ _ _ h => h) (fun w' => by go_simp; with_reducible rfl) ?_; simp only [Act.put, List.setIfInBounds_toArray, List.set_cons_zero, List.set_cons_succ]
  refine pu_ (i := 8) (N := some 15) (v := _) (any_of HT_.out (by kernel_rfl)) rfl rfl (by rfl) (fun _ _ _ h => h) (fun w' => by go_simp; with_reducible rfl) ?_; simp only [Act.put, List.setIfInBounds_toArray, List.set_cons_zero, List.set_cons_succ]
  refine pu_ (i := 10) (N := some 17) (v := _) (any_of HT_.out (by kernel_rfl)) rfl rfl (by rfl) (fun _ _ _ h => h) (fun w' => by go_simp; with_reducible rfl) ?_; simp only [Act.put, List.setIfInBounds_toArray, List.set_cons_zero, List.set_cons_succ]
  refine pu_ (i := 11) (N := some 18) (v := _) (any_of HT_.out (by kernel_rfl)) rfl rfl (by rfl) (fun _ _ _ h => h) (fun w' => by go_simp; with_reducible rfl) ?_; simp only [Act.put, List.setIfInBounds_toArray, List.set_cons_zero, List.set_cons_succ]
  refine tk_ (i := 4) (N := 11) (t := 27) (p := .tmp 10) (v := .agg c.a) (take_ofW HT_.out HW_.out (by kernel_rfl)) rfl (fun _ _ _ h => h) hHeld ?_ ?_; · exact fun w' h' => hl27 w' h'
  simp only [Act.put, List.setIfInBounds_toArray, List.set_cons_zero, List.set_cons_succ]
  refine tk_ (i := 9) (N := 16) (t := 3) (p := .tmp 15) (v := .int .i64 d) (take_ofW HT_.out HW_.out (by kernel_rfl)) rfl (fun _ _ _ h => h) hHeld ?_ ?_; · exact fun w' h' => hl3 w' h'
  simp only [Act.put, List.setIfInBounds_toArray, List.set_cons_zero, List.set_cons_succ]
  refine cl_ (i := 12) (N := some 19) 18 #[.agg c.a, .int .i64 d, .bool st, .int .u64 v] (one_of HT_.out (by kernel_rfl)) rfl rfl (by decide) (by rfl) (by unfold execOp; go_simp) (HR.out _) ?_; rintro e w1 ⟨rfl, hb⟩; refine ⟨_, rfl, Mac.below (w := w.drew) hHeld hb, fun hHeld => ?_⟩; simp only [Act.put, List.setIfInBounds_toArray, List.set_cons_zero, List.set_cons_succ]
  refine pu_ (i := 13) (N := some 6) (v := _) (any_of HT_.out (by kernel_rfl)) rfl rfl (by rfl) (fun _ _ _ h => h) (fun w' => by go_simp; with_reducible rfl) ?_; simp only [Act.put, List.setIfInBounds_toArray, List.set_cons_zero, List.set_cons_succ]
  refine pu_ (i := 14) (N := some 20) (v := _) (any_of HT_.out (by kernel_rfl)) rfl rfl (by rfl) (fun _ _ _ h => h) (fun w' => by go_simp; with_reducible rfl) ?_; simp only [Act.put, List.setIfInBounds_toArray, List.set_cons_zero, List.set_cons_succ]
  refine pu_ (i := 15) (N := some 21) (v := _) (any_of HT_.out (by kernel_rfl)) rfl rfl (by rfl) (fun _ _ _ h => h) (fun w' => by go_simp; with_reducible rfl) ?_; simp only [Act.put, List.setIfInBounds_toArray, List.set_cons_zero, List.set_cons_succ]
  refine pu_ (i := 16) (N := some 22) (v := _) (any_of HT_.out (by kernel_rfl)) rfl rfl (by rfl) (fun _ _ _ h => h) (fun w' => by go_simp; with_reducible rfl) ?_; simp only [Act.put, List.setIfInBounds_toArray, List.set_cons_zero, List.set_cons_succ]
  refine pu_ (i := 17) (N := some 23) (v := _) (any_of HT_.out (by kernel_rfl)) rfl rfl (by rfl) (fun _ _ _ h => h) (fun w' => by go_simp; with_reducible rfl) ?_; simp only [Act.put, List.setIfInBounds_toArray, List.set_cons_zero, List.set_cons_succ]
  refine ls_ (i := 18) (one_of HT_.out (by kernel_rfl)) rfl (by decide) (HS27.out _ hHeld) ?_; simp only [List.setIfInBounds_toArray, List.set_cons_zero, List.set_cons_succ]
  refine done_ (done_of HT_.out (by kernel_rfl)) ?_
  have H1 := aq (((Only.of_below M (pw_below_drewN (Below.refl w.heap.size w) 1)).trans (Only.of_below M (show Below w.drew.heap.size w.drew w1 from hb))).trans (Only.sets w1 M 0 c'.l))
  have H2 := aq (Mac.sets (Mac.below (w := w.drew) HM.out hb) c')
  go_end0
  exact ⟨rfl, H1.out, H2.out⟩
def CPU.jump (c : CPU) (is : Bool) (ta : Int) (call : Bool) : CPU := { (if call = true then c.setX 30 (IntKind.u64.wrap (c.pc + 4)) else c) with pc := if is = true then ta else IntKind.u64.wrap (c.pc + 4) }
theorem Mac.setX {w : World} {M : Nat} {c : CPU} {mp : Value} {i : INS} {t : Value} (h : Mac w M c mp i t) (v : Int) : Mac (w.setCell ⟨M, 30, none⟩ (.int .u64 v)) M (c.setX 30 v) mp i t := blk_put h 30 _ (by simp [macA, CPU.l, CPU.setX])
theorem Mac.setPc {w : World} {M : Nat} {c : CPU} {mp : Value} {i : INS} {t : Value} (h : Mac w M c mp i t) (v : Int) : Mac (w.setCell ⟨M, 32, none⟩ (.int .u64 v)) M { c with pc := v } mp i t := blk_put h 32 _ (by simp [macA, CPU.l])
theorem Mac.setT {w : World} {M : Nat} {c : CPU} {mp : Value} {i : INS} {t : Value} (h : Mac w M c mp i t) (v : Value) : Mac (w.setCell ⟨M, 48, none⟩ v) M c mp i v := blk_put h 48 _ (by simp [macA, CPU.l])
set_option maxRecDepth 100000 in
theorem jump_at (c : CPU) (mp : Value) (i : INS) (t : Value) (M : Nat) (is : Bool) (ta : Int) (call : Bool) (w : World) (hm : Mac w M c mp i t) :
    Calls Tryz.prog 158 #[.pointer (some ⟨M, 0, none⟩), .bool is, .int .u64 ta, .bool call] w fun e w' => e = .returned (.tuple #[]) ∧ Only w w' M ∧ Mac w' M (c.jump is ta call) mp i t := by
  have cp : w.cell? ⟨M, 32, none⟩ = some (.int .u64 c.pc) := (hm.cell 32).trans rfl
  have cx : w.cell? ⟨M, 30, none⟩ = some (.int .u64 (c.x 30)) := (hm.cell 30).trans rfl
  have fp := hm.free 32
  have fx := hm.free 30
  have H := aq hm
  clear hm
  cases call
  · cases is
    · go_enter Tryz.func158, Tryz.ntmps158
      go_wp2
      go_end0
      exact ⟨rfl, Only.set _ _ _ _, H.out.setPc _⟩
    · go_enter Tryz.func158, Tryz.ntmps158
      go_wp2
      go_end0
      exact ⟨rfl, Only.set _ _ _ _, H.out.setPc _⟩
  · have H1 := aq (show Mac (w.setCell ⟨M, 30, none⟩ (.int .u64 (IntKind.u64.wrap (c.pc + 4)))).drew M (c.setX 30 (IntKind.u64.wrap (c.pc + 4))) mp i t from H.out.setX (IntKind.u64.wrap (c.pc + 4)))
    have HO := aq (show Only w (w.setCell ⟨M, 30, none⟩ (.int .u64 (IntKind.u64.wrap (c.pc + 4)))).drew M from (Only.set _ _ _ _).trans (Only.of_below M (below_drew1 (Below.refl _ _))))
    cases is
    all_goals
      go_enter Tryz.func158, Tryz.ntmps158
      go_upto_region 1 with fail
      go_region
      generalize (w.setCell ⟨M, 30, none⟩ (.int .u64 (IntKind.u64.wrap (c.pc + 4)))).drew = w1 at *
      clear cp cx fp fx
      have cp : w1.cell? ⟨M, 32, none⟩ = some (.int .u64 c.pc) := (H1.out.cell 32).trans rfl
      have fp := H1.out.free 32
      go_wp2
      go_end0
      exact ⟨rfl, HO.out.trans (Only.set _ _ _ _), H1.out.setPc _⟩
structure ARG where
  d : Int
  n : Int
  m : Int
  a : Int
structure FL where
  n : Bool
  z : Bool
  c : Bool
  v : Bool
def FL.l (f : FL) : List Value := [.bool f.n, .bool f.z, .bool f.c, .bool f.v]
def FL.a (f : FL) : Array Value := f.l.toArray
def wkL (i : INS) (x : ARG) (f : FL) : List Value := [.int .i64 i.o, .int .i64 i.d, .int .i64 i.n, .int .i64 i.m, .int .i64 i.a, .int .i64 i.im, .int .u64 i.ms, .int .i64 i.sh, .int .i64 i.am, .int .i64 i.cd, .int .u64 x.d, .int .u64 x.n, .int .u64 x.m, .int .u64 x.a, .bool f.n, .bool f.z, .bool f.c, .bool f.v]
def wkA (i : INS) (x : ARG) (f : FL) : Array Value := (wkL i x f).toArray
theorem under_wk : Tryz.prog.underlying 325 = some (.struct (match Tryz.prog.underlying 325 with | some (.struct fs) => fs | _ => #[])) := by kernel_rfl
theorem info_wk : (Tryz.prog.info? 325).map (·.size) = some 18 := by kernel_rfl
theorem under_fl : Tryz.prog.underlying 25 = some (.struct (match Tryz.prog.underlying 25 with | some (.struct fs) => fs | _ => #[])) := by kernel_rfl
theorem info_fl : (Tryz.prog.info? 25).map (·.size) = some 4 := by kernel_rfl
def Wk (w : World) (B : Nat) (i : INS) (x : ARG) (f : FL) : Prop := w.heap[B]? = some (.cells (wkA i x f) 325 (0, 0))
def Fb (w : World) (B : Nat) (f : FL) : Prop := w.heap[B]? = some (.cells f.a 25 (0, 0))
section
variable {w w' : World} {B R : Nat} {i : INS} {x : ARG} {f g h : FL}
theorem Wk.below (hk : Wk w B i x f) (hb : Below w.heap.size w w') : Wk w' B i x f := blk_below hk hb
theorem Fb.below (hk : Fb w B f) (hb : Below w.heap.size w w') : Fb w' B f := blk_below hk hb
theorem Wk.far (hk : Wk w B i x f) (hn : B ≠ R) (vs : List Value) : Wk (w.setCells R 0 vs) B i x f := blk_sets_far vs 0 hn hk
theorem Fb.put (hk : Fb w R f) : Fb (w.setCells R 0 g.l) R g := by
  have := blk_sets g.l 0 hk
  have e : sets f.a 0 g.l = g.a := by simp [sets, FL.a, FL.l]
  rwa [e] at this
theorem Wk.range (hk : Wk w B i x f) : w.rangeAt B 0 (wkL i x f) := range_blk hk 0 _ fun j v hj => by rw [Nat.zero_add]; simpa [wkA] using hj
theorem FL.one (g : FL) : g.a.all (·.oneCell') = true := by simp [FL.a, FL.l, Value.oneCell']
theorem Wk.load (hk : Wk w B i x f) : Sem.run Tryz.prog (Instr.loadAt 325 (.pointer (some ⟨B, 0, none⟩))) w = .ok (.agg (wkA i x f)) w :=
  run_loadAt_mid w B 0 325 (wkL i x f) _ (range_blk hk 0 _ fun j v hj => by rw [Nat.zero_add]; simpa [wkA] using hj) under_wk rfl info_wk
theorem Wk.rangeF (hk : Wk w B i x f) : w.rangeAt B 14 f.l := range_blk hk 14 _ fun j v hj => by
  have hj4 : j < 4 := (List.getElem?_eq_some_iff.1 hj).1
  have : j = 0 ∨ j = 1 ∨ j = 2 ∨ j = 3 := by omega
  rcases this with rfl | rfl | rfl | rfl <;> exact hj
theorem Wk.loadF (hk : Wk w B i x f) : Sem.run Tryz.prog (Instr.loadAt 25 (.pointer (some ⟨B, 14, none⟩))) w = .ok (.agg f.a) w :=
  run_loadAt_mid w B 14 25 f.l _ (range_blk hk 14 _ fun j v hj => by
    have hj4 : j < 4 := (List.getElem?_eq_some_iff.1 hj).1
    have : j = 0 ∨ j = 1 ∨ j = 2 ∨ j = 3 := by omega
    rcases this with rfl | rfl | rfl | rfl <;> exact hj) under_fl rfl info_fl
theorem Fb.load (hk : Fb w R f) : Sem.run Tryz.prog (Instr.loadAt 25 (.pointer (some ⟨R, 0, none⟩))) w = .ok (.agg f.a) w :=
  run_loadAt_mid w R 0 25 f.l _ (range_blk hk 0 _ fun j v hj => by rw [Nat.zero_add]; simpa [FL.a] using hj) under_fl rfl info_fl
theorem Fb.far (hk : Fb w B f) (hn : B ≠ R) (vs : List Value) : Fb (w.setCells R 0 vs) B f := blk_sets_far vs 0 hn hk
theorem Fb.store (hk : Fb w R f) : Sem.run Tryz.prog (Instr.storeAt 25 (.pointer (some ⟨R, 0, none⟩)) (.agg g.a)) w = .ok () (w.setCells R 0 g.l) :=
  run_storeAt_mid w R 0 25 g.a (there_blk hk 0 4 (by simp [FL.a, FL.l])) info_fl (by simp [FL.a, FL.l, Value.oneCell'])
theorem Wk.u64 (hk : Wk w B i x f) (j : Nat) (v : Int) (hv : (wkA i x f)[j]? = some (.int .u64 v)) : Sem.run Tryz.prog (Instr.loadAt 22 (.pointer (some ⟨B, j, none⟩))) w = .ok (.int .u64 v) w := by
  have hc := (blk_cell hk j).trans hv
  go_simp
theorem Wk.int (hk : Wk w B i x f) (j : Nat) (v : Int) (hv : (wkA i x f)[j]? = some (.int .i64 v)) : Sem.run Tryz.prog (Instr.loadAt 3 (.pointer (some ⟨B, j, none⟩))) w = .ok (.int .i64 v) w := by
  have hc := (blk_cell hk j).trans hv
  go_simp
end
def SecV (i : INS) (x : ARG) (f : FL) (V : Int) : Prop := ∀ w : World, TabW w → Calls Tryz.prog 349 #[.agg (wkA i x f)] w fun e w' => e = .returned (.int .u64 V) ∧ Below w.heap.size w w'
def WkRet (n : FuncId) (i : INS) (x : ARG) (f : FL) (r : Int) (g : FL) : Prop := ∀ w : World, TabW w → Calls Tryz.prog n #[.agg (wkA i x f)] w fun e w' => e = .returned (.tuple #[.int .u64 r, .agg g.a]) ∧ Below w.heap.size w w'
attribute [-go_sem] Instr.loadAt Instr.storeAt in
set_option maxHeartbeats 1000000 in
set_option maxRecDepth 100000 in
theorem wk_and (i : INS) (x : ARG) (f : FL) (V : Int) (hV : SecV i x f V) : WkRet 314 i x f (Go.bits .and .u64 x.n V) f := by
  intro w hTab
  obtain ⟨W, hW, hA, hZ, hB⟩ := two_new w (.cells (wkA i x f) 325) (.cells (FL.a ⟨false, false, false, false⟩) 25)
  have HW := aq hW
  have HK := aq (show Wk W.drew w.heap.size i x f from hA)
  have HZ := aq (show Fb W.drew (w.heap.size + 1) ⟨false, false, false, false⟩ from hZ)
  have HB := aq (show Below w.heap.size w W.drew from below_drew1 hB)
  have HT := aq (fun (W : World) (hb : Below w.heap.size w W) => TabW.below hTab hb)
  have HNE := aq (Nat.ne_of_lt (Nat.lt_succ_self w.heap.size))
  have HV := aq hV
  have hst := fun (w' : World) (hk : Fb w' (w.heap.size + 1) ⟨false, false, false, false⟩) => hk.store (g := f)
  have hl0 := fun (w' : World) (hk : Wk w' w.heap.size i x f) => hk.load
  have hl1 := fun (w' : World) (hk : Wk w' w.heap.size i x f) => hk.loadF
  have hl2 := fun (w' : World) (hk : Wk w' w.heap.size i x f) => hk.u64 11 x.n rfl
  clear hW hA hZ hB hTab hV
  go_enter Tryz.func314, Tryz.ntmps314
  go_upto_region 1 with fail
  change Code.wp _ _ _ _ ((w.alloc (.cells (wkA i x f) 325)).alloc (.cells (FL.a ⟨false, false, false, false⟩) 25))
  rw [← HW.out]
  clear HW
  go_region_held3 (fun w' => Wk w' w.heap.size i x f) (with_reducible first | exact HK.out | exact HK1.out | exact HK2.out | exact HK1.out.far HNE.out _ | exact HK.out.far HNE.out _ | exact HK2.out.far HNE.out _) ((go_at_call 349; refine (HV.out _ (HT.out _ HB.out)).mono ?_; rintro e w1 ⟨rfl, hb⟩; have HK1 := aq (HK.out.below hb); have hz1 := HZ.out.below hb; have HB1 := aq (below_step HB.out hb); clear hb))
  have F3 := aq (hz1.put (g := f))
  have F4 := aq (below_sets (Nat.le_succ w.heap.size) (f).l 0 HB1.out)
  clear hz1
  go_wp2
  exact bodyPost_ret (results_list (rs := [.tmp 2, .cell 3 25]) rfl (by simp) (.tmp (.cell (w.heap.size + 1) 25 _ (0, 0) _ rfl F3.out under_fl rfl info_fl .nil))) rfl ⟨rfl, F4.out⟩
attribute [-go_sem] Instr.loadAt Instr.storeAt in
set_option maxHeartbeats 1000000 in
set_option maxRecDepth 100000 in
theorem wk_orr (i : INS) (x : ARG) (f : FL) (V : Int) (hV : SecV i x f V) : WkRet 315 i x f (Go.bits .or .u64 x.n V) f := by
  intro w hTab
  obtain ⟨W, hW, hA, hZ, hB⟩ := two_new w (.cells (wkA i x f) 325) (.cells (FL.a ⟨false, false, false, false⟩) 25)
  have HW := aq hW
  have HK := aq (show Wk W.drew w.heap.size i x f from hA)
  have HZ := aq (show Fb W.drew (w.heap.size + 1) ⟨false, false, false, false⟩ from hZ)
  have HB := aq (show Below w.heap.size w W.drew from below_drew1 hB)
  have HT := aq (fun (W : World) (hb : Below w.heap.size w W) => TabW.below hTab hb)
  have HNE := aq (Nat.ne_of_lt (Nat.lt_succ_self w.heap.size))
  have HV := aq hV
  have hst := fun (w' : World) (hk : Fb w' (w.heap.size + 1) ⟨false, false, false, false⟩) => hk.store (g := f)
  have hl0 := fun (w' : World) (hk : Wk w' w.heap.size i x f) => hk.load
  have hl1 := fun (w' : World) (hk : Wk w' w.heap.size i x f) => hk.loadF
  have hl2 := fun (w' : World) (hk : Wk w' w.heap.size i x f) => hk.u64 11 x.n rfl
  clear hW hA hZ hB hTab hV
  go_enter Tryz.func315, Tryz.ntmps315
  go_upto_region 1 with fail
  change Code.wp _ _ _ _ ((w.alloc (.cells (wkA i x f) 325)).alloc (.cells (FL.a ⟨false, false, false, false⟩) 25))
  rw [← HW.out]
  clear HW
  go_region_held3 (fun w' => Wk w' w.heap.size i x f) (with_reducible first | exact HK.out | exact HK1.out | exact HK2.out | exact HK1.out.far HNE.out _ | exact HK.out.far HNE.out _ | exact HK2.out.far HNE.out _) ((go_at_call 349; refine (HV.out _ (HT.out _ HB.out)).mono ?_; rintro e w1 ⟨rfl, hb⟩; have HK1 := aq (HK.out.below hb); have hz1 := HZ.out.below hb; have HB1 := aq (below_step HB.out hb); clear hb))
  have F3 := aq (hz1.put (g := f))
  have F4 := aq (below_sets (Nat.le_succ w.heap.size) (f).l 0 HB1.out)
  clear hz1
  go_wp2
  exact bodyPost_ret (results_list (rs := [.tmp 2, .cell 3 25]) rfl (by simp) (.tmp (.cell (w.heap.size + 1) 25 _ (0, 0) _ rfl F3.out under_fl rfl info_fl .nil))) rfl ⟨rfl, F4.out⟩
attribute [-go_sem] Instr.loadAt Instr.storeAt in
set_option maxHeartbeats 1000000 in
set_option maxRecDepth 100000 in
theorem wk_eor (i : INS) (x : ARG) (f : FL) (V : Int) (hV : SecV i x f V) : WkRet 316 i x f (Go.bits .xor .u64 x.n V) f := by
  intro w hTab
  obtain ⟨W, hW, hA, hZ, hB⟩ := two_new w (.cells (wkA i x f) 325) (.cells (FL.a ⟨false, false, false, false⟩) 25)
  have HW := aq hW
  have HK := aq (show Wk W.drew w.heap.size i x f from hA)
  have HZ := aq (show Fb W.drew (w.heap.size + 1) ⟨false, false, false, false⟩ from hZ)
  have HB := aq (show Below w.heap.size w W.drew from below_drew1 hB)
  have HT := aq (fun (W : World) (hb : Below w.heap.size w W) => TabW.below hTab hb)
  have HNE := aq (Nat.ne_of_lt (Nat.lt_succ_self w.heap.size))
  have HV := aq hV
  have hst := fun (w' : World) (hk : Fb w' (w.heap.size + 1) ⟨false, false, false, false⟩) => hk.store (g := f)
  have hl0 := fun (w' : World) (hk : Wk w' w.heap.size i x f) => hk.load
  have hl1 := fun (w' : World) (hk : Wk w' w.heap.size i x f) => hk.loadF
  have hl2 := fun (w' : World) (hk : Wk w' w.heap.size i x f) => hk.u64 11 x.n rfl
  clear hW hA hZ hB hTab hV
  go_enter Tryz.func316, Tryz.ntmps316
  go_upto_region 1 with fail
  change Code.wp _ _ _ _ ((w.alloc (.cells (wkA i x f) 325)).alloc (.cells (FL.a ⟨false, false, false, false⟩) 25))
  rw [← HW.out]
  clear HW
  go_region_held3 (fun w' => Wk w' w.heap.size i x f) (with_reducible first | exact HK.out | exact HK1.out | exact HK2.out | exact HK1.out.far HNE.out _ | exact HK.out.far HNE.out _ | exact HK2.out.far HNE.out _) ((go_at_call 349; refine (HV.out _ (HT.out _ HB.out)).mono ?_; rintro e w1 ⟨rfl, hb⟩; have HK1 := aq (HK.out.below hb); have hz1 := HZ.out.below hb; have HB1 := aq (below_step HB.out hb); clear hb))
  have F3 := aq (hz1.put (g := f))
  have F4 := aq (below_sets (Nat.le_succ w.heap.size) (f).l 0 HB1.out)
  clear hz1
  go_wp2
  exact bodyPost_ret (results_list (rs := [.tmp 2, .cell 3 25]) rfl (by simp) (.tmp (.cell (w.heap.size + 1) 25 _ (0, 0) _ rfl F3.out under_fl rfl info_fl .nil))) rfl ⟨rfl, F4.out⟩
attribute [-go_sem] Instr.loadAt Instr.storeAt in
set_option maxHeartbeats 1000000 in
set_option maxRecDepth 100000 in
theorem wk_put (i : INS) (x : ARG) (f : FL) (V : Int) (hV : SecV i x f V) : WkRet 307 i x f V f := by
  intro w hTab
  obtain ⟨W, hW, hA, hZ, hB⟩ := two_new w (.cells (wkA i x f) 325) (.cells (FL.a ⟨false, false, false, false⟩) 25)
  have HW := aq hW
  have HK := aq (show Wk W.drew w.heap.size i x f from hA)
  have HZ := aq (show Fb W.drew (w.heap.size + 1) ⟨false, false, false, false⟩ from hZ)
  have HB := aq (show Below w.heap.size w W.drew from below_drew1 hB)
  have HT := aq (fun (W : World) (hb : Below w.heap.size w W) => TabW.below hTab hb)
  have HNE := aq (Nat.ne_of_lt (Nat.lt_succ_self w.heap.size))
  have HV := aq hV
  have hst := fun (w' : World) (hk : Fb w' (w.heap.size + 1) ⟨false, false, false, false⟩) => hk.store (g := f)
  have hl0 := fun (w' : World) (hk : Wk w' w.heap.size i x f) => hk.load
  have hl1 := fun (w' : World) (hk : Wk w' w.heap.size i x f) => hk.loadF
  clear hW hA hZ hB hTab hV
  go_enter Tryz.func307, Tryz.ntmps307
  go_upto_region 1 with fail
  change Code.wp _ _ _ _ ((w.alloc (.cells (wkA i x f) 325)).alloc (.cells (FL.a ⟨false, false, false, false⟩) 25))
  rw [← HW.out]
  clear HW
  go_region_held3 (fun w' => Wk w' w.heap.size i x f) (with_reducible first | exact HK.out | exact HK1.out | exact HK2.out | exact HK1.out.far HNE.out _ | exact HK.out.far HNE.out _ | exact HK2.out.far HNE.out _) ((go_at_call 349; refine (HV.out _ (HT.out _ HB.out)).mono ?_; rintro e w1 ⟨rfl, hb⟩; have HK1 := aq (HK.out.below hb); have hz1 := HZ.out.below hb; have HB1 := aq (below_step HB.out hb); clear hb))
  have F3 := aq (hz1.put (g := f))
  have F4 := aq (below_sets (Nat.le_succ w.heap.size) (f).l 0 HB1.out)
  clear hz1
  go_wp2
  exact bodyPost_ret (results_list (rs := [.tmp 2, .cell 3 25]) rfl (by simp) (.tmp (.cell (w.heap.size + 1) 25 _ (0, 0) _ rfl F3.out under_fl rfl info_fl .nil))) rfl ⟨rfl, F4.out⟩
attribute [-go_sem] Instr.loadAt Instr.storeAt in
set_option maxHeartbeats 1000000 in
set_option maxRecDepth 100000 in
theorem wk_not (i : INS) (x : ARG) (f : FL) (V : Int) (hV : SecV i x f V) : WkRet 308 i x f (Go.bits .xor .u64 18446744073709551615 V) f := by
  intro w hTab
  obtain ⟨W, hW, hA, hZ, hB⟩ := two_new w (.cells (wkA i x f) 325) (.cells (FL.a ⟨false, false, false, false⟩) 25)
  have HW := aq hW
  have HK := aq (show Wk W.drew w.heap.size i x f from hA)
  have HZ := aq (show Fb W.drew (w.heap.size + 1) ⟨false, false, false, false⟩ from hZ)
  have HB := aq (show Below w.heap.size w W.drew from below_drew1 hB)
  have HT := aq (fun (W : World) (hb : Below w.heap.size w W) => TabW.below hTab hb)
  have HNE := aq (Nat.ne_of_lt (Nat.lt_succ_self w.heap.size))
  have HV := aq hV
  have hst := fun (w' : World) (hk : Fb w' (w.heap.size + 1) ⟨false, false, false, false⟩) => hk.store (g := f)
  have hl0 := fun (w' : World) (hk : Wk w' w.heap.size i x f) => hk.load
  have hl1 := fun (w' : World) (hk : Wk w' w.heap.size i x f) => hk.loadF
  clear hW hA hZ hB hTab hV
  go_enter Tryz.func308, Tryz.ntmps308
  go_upto_region 1 with fail
  change Code.wp _ _ _ _ ((w.alloc (.cells (wkA i x f) 325)).alloc (.cells (FL.a ⟨false, false, false, false⟩) 25))
  rw [← HW.out]
  clear HW
  go_region_held3 (fun w' => Wk w' w.heap.size i x f) (with_reducible first | exact HK.out | exact HK1.out | exact HK2.out | exact HK1.out.far HNE.out _ | exact HK.out.far HNE.out _ | exact HK2.out.far HNE.out _) ((go_at_call 349; refine (HV.out _ (HT.out _ HB.out)).mono ?_; rintro e w1 ⟨rfl, hb⟩; have HK1 := aq (HK.out.below hb); have hz1 := HZ.out.below hb; have HB1 := aq (below_step HB.out hb); clear hb))
  have F3 := aq (hz1.put (g := f))
  have F4 := aq (below_sets (Nat.le_succ w.heap.size) (f).l 0 HB1.out)
  clear hz1
  go_wp2
  exact bodyPost_ret (results_list (rs := [.tmp 2, .cell 3 25]) rfl (by simp) (.tmp (.cell (w.heap.size + 1) 25 _ (0, 0) _ rfl F3.out under_fl rfl info_fl .nil))) rfl ⟨rfl, F4.out⟩
attribute [-go_sem] Instr.loadAt Instr.storeAt in
set_option maxHeartbeats 1000000 in
set_option maxRecDepth 100000 in
theorem wk_keep (i : INS) (x : ARG) (f : FL) (V : Int) (hV : SecV i x f V) (ha : 0 ≤ i.am) : WkRet 309 i x f (Go.bits .or .u64 (Go.bits .andNot .u64 x.d (shl .u64 65535 i.am)) V) f := by
  intro w hTab
  obtain ⟨W, hW, hA, hZ, hB⟩ := two_new w (.cells (wkA i x f) 325) (.cells (FL.a ⟨false, false, false, false⟩) 25)
  have HW := aq hW
  have HK := aq (show Wk W.drew w.heap.size i x f from hA)
  have HZ := aq (show Fb W.drew (w.heap.size + 1) ⟨false, false, false, false⟩ from hZ)
  have HB := aq (show Below w.heap.size w W.drew from below_drew1 hB)
  have HT := aq (fun (W : World) (hb : Below w.heap.size w W) => TabW.below hTab hb)
  have HNE := aq (Nat.ne_of_lt (Nat.lt_succ_self w.heap.size))
  have HV := aq hV
  have hst := fun (w' : World) (hk : Fb w' (w.heap.size + 1) ⟨false, false, false, false⟩) => hk.store (g := f)
  have hl0 := fun (w' : World) (hk : Wk w' w.heap.size i x f) => hk.load
  have hl1 := fun (w' : World) (hk : Wk w' w.heap.size i x f) => hk.loadF
  have hl2 := fun (w' : World) (hk : Wk w' w.heap.size i x f) => hk.u64 10 x.d rfl
  have hl3 := fun (w' : World) (hk : Wk w' w.heap.size i x f) => hk.int 8 i.am rfl
  clear hW hA hZ hB hTab hV
  go_enter Tryz.func309, Tryz.ntmps309
  go_upto_region 1 with fail
  change Code.wp _ _ _ _ ((w.alloc (.cells (wkA i x f) 325)).alloc (.cells (FL.a ⟨false, false, false, false⟩) 25))
  rw [← HW.out]
  clear HW
  go_region_held3 (fun w' => Wk w' w.heap.size i x f) (with_reducible first | exact HK.out | exact HK1.out | exact HK2.out | exact HK1.out.far HNE.out _ | exact HK.out.far HNE.out _ | exact HK2.out.far HNE.out _) ((go_at_call 349; refine (HV.out _ (HT.out _ HB.out)).mono ?_; rintro e w1 ⟨rfl, hb⟩; have HK1 := aq (HK.out.below hb); have hz1 := HZ.out.below hb; have HB1 := aq (below_step HB.out hb); clear hb))
  have F3 := aq (hz1.put (g := f))
  have F4 := aq (below_sets (Nat.le_succ w.heap.size) (f).l 0 HB1.out)
  clear hz1
  go_wp2
  exact bodyPost_ret (results_list (rs := [.tmp 2, .cell 3 25]) rfl (by simp) (.tmp (.cell (w.heap.size + 1) 25 _ (0, 0) _ rfl F3.out under_fl rfl info_fl .nil))) rfl ⟨rfl, F4.out⟩
attribute [-go_sem] Instr.loadAt Instr.storeAt in
set_option maxHeartbeats 1000000 in
set_option maxRecDepth 100000 in
theorem wk_adds (i : INS) (x : ARG) (f : FL) (V r : Int) (g : FL) (hV : SecV i x f V) (hF : ∀ w : World, Calls Tryz.prog 350 #[.int .u64 x.n, .int .u64 V, .bool false] w fun e w' => e = .returned (.tuple #[.int .u64 r, .agg g.a]) ∧ Below w.heap.size w w') : WkRet 312 i x f r g := by
  intro w hTab
  obtain ⟨W, hW, hA, hZ, hB⟩ := two_new w (.cells (wkA i x f) 325) (.cells (FL.a ⟨false, false, false, false⟩) 25)
  have HW := aq hW
  have HK := aq (show Wk W.drew w.heap.size i x f from hA)
  have HZ := aq (show Fb W.drew (w.heap.size + 1) ⟨false, false, false, false⟩ from hZ)
  have HB := aq (show Below w.heap.size w W.drew from below_drew1 hB)
  have HT := aq (fun (W : World) (hb : Below w.heap.size w W) => TabW.below hTab hb)
  have HNE := aq (Nat.ne_of_lt (Nat.lt_succ_self w.heap.size))
  have HV := aq hV
  have HF := aq hF
  have hst := fun (w' : World) (hk : Fb w' (w.heap.size + 1) ⟨false, false, false, false⟩) => hk.store (g := g)
  have hl0 := fun (w' : World) (hk : Wk w' w.heap.size i x f) => hk.load
  have hl1 := fun (w' : World) (hk : Wk w' w.heap.size i x f) => hk.loadF
  have hl2 := fun (w' : World) (hk : Wk w' w.heap.size i x f) => hk.u64 11 x.n rfl
  clear hW hA hZ hB hTab hV hF
  go_enter Tryz.func312, Tryz.ntmps312
  go_upto_region 1 with fail
  change Code.wp _ _ _ _ ((w.alloc (.cells (wkA i x f) 325)).alloc (.cells (FL.a ⟨false, false, false, false⟩) 25))
  rw [← HW.out]
  clear HW
  go_region_held3 (fun w' => Wk w' w.heap.size i x f) (with_reducible first | exact HK.out | exact HK1.out | exact HK2.out | exact HK1.out.far HNE.out _ | exact HK.out.far HNE.out _ | exact HK2.out.far HNE.out _) (first | (go_at_call 349; refine (HV.out _ (HT.out _ HB.out)).mono ?_; rintro e w1 ⟨rfl, hb⟩; have HK1 := aq (HK.out.below hb); have hz1 := HZ.out.below hb; have HB1 := aq (below_step HB.out hb); clear hb) | (go_at_call 350; refine (HF.out _).mono ?_; rintro e w2 ⟨rfl, hb⟩; have HK2 := aq (HK1.out.below hb); have hz2 := hz1.below hb; have HB2 := aq (below_step HB1.out hb); clear hb hz1))
  have F3 := aq (hz2.put (g := g))
  have F4 := aq (below_sets (Nat.le_succ w.heap.size) (g).l 0 HB2.out)
  clear hz2
  go_wp2
  exact bodyPost_ret (results_list (rs := [.tmp 2, .cell 3 25]) rfl (by simp) (.tmp (.cell (w.heap.size + 1) 25 _ (0, 0) _ rfl F3.out under_fl rfl info_fl .nil))) rfl ⟨rfl, F4.out⟩
attribute [-go_sem] Instr.loadAt Instr.storeAt in
set_option maxHeartbeats 1000000 in
set_option maxRecDepth 100000 in
theorem wk_subs (i : INS) (x : ARG) (f : FL) (V r : Int) (g : FL) (hV : SecV i x f V) (hF : ∀ w : World, Calls Tryz.prog 351 #[.int .u64 x.n, .int .u64 V] w fun e w' => e = .returned (.tuple #[.int .u64 r, .agg g.a]) ∧ Below w.heap.size w w') : WkRet 313 i x f r g := by
  intro w hTab
  obtain ⟨W, hW, hA, hZ, hB⟩ := two_new w (.cells (wkA i x f) 325) (.cells (FL.a ⟨false, false, false, false⟩) 25)
  have HW := aq hW
  have HK := aq (show Wk W.drew w.heap.size i x f from hA)
  have HZ := aq (show Fb W.drew (w.heap.size + 1) ⟨false, false, false, false⟩ from hZ)
  have HB := aq (show Below w.heap.size w W.drew from below_drew1 hB)
  have HT := aq (fun (W : World) (hb : Below w.heap.size w W) => TabW.below hTab hb)
  have HNE := aq (Nat.ne_of_lt (Nat.lt_succ_self w.heap.size))
  have HV := aq hV
  have HF := aq hF
  have hst := fun (w' : World) (hk : Fb w' (w.heap.size + 1) ⟨false, false, false, false⟩) => hk.store (g := g)
  have hl0 := fun (w' : World) (hk : Wk w' w.heap.size i x f) => hk.load
  have hl1 := fun (w' : World) (hk : Wk w' w.heap.size i x f) => hk.loadF
  have hl2 := fun (w' : World) (hk : Wk w' w.heap.size i x f) => hk.u64 11 x.n rfl
  clear hW hA hZ hB hTab hV hF
  go_enter Tryz.func313, Tryz.ntmps313
  go_upto_region 1 with fail
  change Code.wp _ _ _ _ ((w.alloc (.cells (wkA i x f) 325)).alloc (.cells (FL.a ⟨false, false, false, false⟩) 25))
  rw [← HW.out]
  clear HW
  go_region_held3 (fun w' => Wk w' w.heap.size i x f) (with_reducible first | exact HK.out | exact HK1.out | exact HK2.out | exact HK1.out.far HNE.out _ | exact HK.out.far HNE.out _ | exact HK2.out.far HNE.out _) (first | (go_at_call 349; refine (HV.out _ (HT.out _ HB.out)).mono ?_; rintro e w1 ⟨rfl, hb⟩; have HK1 := aq (HK.out.below hb); have hz1 := HZ.out.below hb; have HB1 := aq (below_step HB.out hb); clear hb) | (go_at_call 351; refine (HF.out _).mono ?_; rintro e w2 ⟨rfl, hb⟩; have HK2 := aq (HK1.out.below hb); have hz2 := hz1.below hb; have HB2 := aq (below_step HB1.out hb); clear hb hz1))
  have F3 := aq (hz2.put (g := g))
  have F4 := aq (below_sets (Nat.le_succ w.heap.size) (g).l 0 HB2.out)
  clear hz2
  go_wp2
  exact bodyPost_ret (results_list (rs := [.tmp 2, .cell 3 25]) rfl (by simp) (.tmp (.cell (w.heap.size + 1) 25 _ (0, 0) _ rfl F3.out under_fl rfl info_fl .nil))) rfl ⟨rfl, F4.out⟩
attribute [-go_sem] Instr.loadAt Instr.storeAt in
set_option maxHeartbeats 1000000 in
set_option maxRecDepth 100000 in
theorem wk_madd (i : INS) (x : ARG) (f : FL)  : WkRet 318 i x f (IntKind.u64.wrap (x.a + IntKind.u64.wrap (x.n * x.m))) f := by
  intro w hTab
  obtain ⟨W, hW, hA, hZ, hB⟩ := two_new w (.cells (wkA i x f) 325) (.cells (FL.a ⟨false, false, false, false⟩) 25)
  have HW := aq hW
  have HK := aq (show Wk W.drew w.heap.size i x f from hA)
  have HZ := aq (show Fb W.drew (w.heap.size + 1) ⟨false, false, false, false⟩ from hZ)
  have HB := aq (show Below w.heap.size w W.drew from below_drew1 hB)
  have HT := aq (fun (W : World) (hb : Below w.heap.size w W) => TabW.below hTab hb)
  have HNE := aq (Nat.ne_of_lt (Nat.lt_succ_self w.heap.size))
  have hz := HZ.out
  have hst := fun (w' : World) (hk : Fb w' (w.heap.size + 1) ⟨false, false, false, false⟩) => hk.store (g := f)
  have hl0 := fun (w' : World) (hk : Wk w' w.heap.size i x f) => hk.loadF
  have hl1 := fun (w' : World) (hk : Wk w' w.heap.size i x f) => hk.u64 11 x.n rfl
  have hl2 := fun (w' : World) (hk : Wk w' w.heap.size i x f) => hk.u64 12 x.m rfl
  have hl3 := fun (w' : World) (hk : Wk w' w.heap.size i x f) => hk.u64 13 x.a rfl
  clear hW hA hZ hB hTab
  go_enter Tryz.func318, Tryz.ntmps318
  go_upto_region 1 with fail
  change Code.wp _ _ _ _ ((w.alloc (.cells (wkA i x f) 325)).alloc (.cells (FL.a ⟨false, false, false, false⟩) 25))
  rw [← HW.out]
  clear HW
  go_region_held3 (fun w' => Wk w' w.heap.size i x f) (with_reducible first | exact HK.out | exact HK1.out | exact HK2.out | exact HK1.out.far HNE.out _ | exact HK.out.far HNE.out _ | exact HK2.out.far HNE.out _) (fail)
  have F3 := aq (hz.put (g := f))
  have F4 := aq (below_sets (Nat.le_succ w.heap.size) (f).l 0 HB.out)
  clear hz
  go_wp2
  exact bodyPost_ret (results_list (rs := [.tmp 2, .cell 3 25]) rfl (by simp) (.tmp (.cell (w.heap.size + 1) 25 _ (0, 0) _ rfl F3.out under_fl rfl info_fl .nil))) rfl ⟨rfl, F4.out⟩
attribute [-go_sem] Instr.loadAt Instr.storeAt in
set_option maxHeartbeats 1000000 in
set_option maxRecDepth 100000 in
theorem wk_msub (i : INS) (x : ARG) (f : FL)  : WkRet 319 i x f (IntKind.u64.wrap (x.a - IntKind.u64.wrap (x.n * x.m))) f := by
  intro w hTab
  obtain ⟨W, hW, hA, hZ, hB⟩ := two_new w (.cells (wkA i x f) 325) (.cells (FL.a ⟨false, false, false, false⟩) 25)
  have HW := aq hW
  have HK := aq (show Wk W.drew w.heap.size i x f from hA)
  have HZ := aq (show Fb W.drew (w.heap.size + 1) ⟨false, false, false, false⟩ from hZ)
  have HB := aq (show Below w.heap.size w W.drew from below_drew1 hB)
  have HT := aq (fun (W : World) (hb : Below w.heap.size w W) => TabW.below hTab hb)
  have HNE := aq (Nat.ne_of_lt (Nat.lt_succ_self w.heap.size))
  have hz := HZ.out
  have hst := fun (w' : World) (hk : Fb w' (w.heap.size + 1) ⟨false, false, false, false⟩) => hk.store (g := f)
  have hl0 := fun (w' : World) (hk : Wk w' w.heap.size i x f) => hk.loadF
  have hl1 := fun (w' : World) (hk : Wk w' w.heap.size i x f) => hk.u64 11 x.n rfl
  have hl2 := fun (w' : World) (hk : Wk w' w.heap.size i x f) => hk.u64 12 x.m rfl
  have hl3 := fun (w' : World) (hk : Wk w' w.heap.size i x f) => hk.u64 13 x.a rfl
  clear hW hA hZ hB hTab
  go_enter Tryz.func319, Tryz.ntmps319
  go_upto_region 1 with fail
  change Code.wp _ _ _ _ ((w.alloc (.cells (wkA i x f) 325)).alloc (.cells (FL.a ⟨false, false, false, false⟩) 25))
  rw [← HW.out]
  clear HW
  go_region_held3 (fun w' => Wk w' w.heap.size i x f) (with_reducible first | exact HK.out | exact HK1.out | exact HK2.out | exact HK1.out.far HNE.out _ | exact HK.out.far HNE.out _ | exact HK2.out.far HNE.out _) (fail)
  have F3 := aq (hz.put (g := f))
  have F4 := aq (below_sets (Nat.le_succ w.heap.size) (f).l 0 HB.out)
  clear hz
  go_wp2
  exact bodyPost_ret (results_list (rs := [.tmp 2, .cell 3 25]) rfl (by simp) (.tmp (.cell (w.heap.size + 1) 25 _ (0, 0) _ rfl F3.out under_fl rfl info_fl .nil))) rfl ⟨rfl, F4.out⟩
attribute [-go_sem] Instr.loadAt Instr.storeAt in
set_option maxHeartbeats 1000000 in
set_option maxRecDepth 100000 in
theorem wk_add (i : INS) (x : ARG) (f : FL) (r : Int) (g : FL) (hC : WkRet 312 i x f r g) : WkRet 310 i x f r f := by
  intro w hTab
  obtain ⟨W, hW, hA, hZ, hB⟩ := two_new w (.cells (wkA i x f) 325) (.cells (FL.a ⟨false, false, false, false⟩) 25)
  have HW := aq hW
  have HK := aq (show Wk W w.heap.size i x f from hA)
  have HZ := aq (show Fb W (w.heap.size + 1) ⟨false, false, false, false⟩ from hZ)
  have HB := aq (show Below w.heap.size w W from hB)
  have HT := aq (fun (W : World) (hb : Below w.heap.size w W) => TabW.below hTab hb)
  have HNE := aq (Nat.ne_of_lt (Nat.lt_succ_self w.heap.size))
  have HC := aq hC
  have hst := fun (w' : World) (hk : Fb w' (w.heap.size + 1) ⟨false, false, false, false⟩) => hk.store (g := f)
  have hl0 := fun (w' : World) (hk : Wk w' w.heap.size i x f) => hk.loadF
  clear hW hA hZ hB hTab hC
  go_enter Tryz.func310, Tryz.ntmps310
  go_upto_region 1 with fail
  change Code.wp _ _ _ _ ((w.alloc (.cells (wkA i x f) 325)).alloc (.cells (FL.a ⟨false, false, false, false⟩) 25))
  rw [← HW.out]
  clear HW
  go_wp2_with (first | ((with_reducible refine gate_dst (N := 7) rfl ?_); refine wpList_load_mid rfl 325 (.tmp 1) rfl w.heap.size 0 rfl (wkL i x f) _ HK.out.range under_wk rfl info_wk ?_) | (go_at_call 312; refine (HC.out _ (HT.out _ HB.out)).mono ?_; rintro e w1 ⟨rfl, hb⟩; have HK1 := aq (HK.out.below hb); have HZ1 := aq (HZ.out.below hb); have HB1 := aq (below_step HB.out hb); clear hb) | ((with_reducible refine gate_store (t := 25) (p := 5) (v := .tmp 10) rfl ?_); refine wpList_store_mid rfl 25 (.tmp 5) (.tmp 10) rfl w1.heap.size 0 g.a rfl rfl (there_blk (blk_new w1 _) 0 4 (by decide)) info_fl g.one ?_))
  simp only [Act.put]
  have hlt := blk_lt HK1.out
  have hlt2 := blk_lt HZ1.out
  have hk2 := (HK1.out.below (below_alloc (Below.refl _ _) (.cells (FL.a ⟨false, false, false, false⟩) 25))).far (Nat.ne_of_lt hlt) g.l
  have hz2 : Fb (((w1.alloc (.cells (FL.a ⟨false, false, false, false⟩) 25)).setCells w1.heap.size 0 g.l)) (w.heap.size + 1) ⟨false, false, false, false⟩ := blk_sets_far g.l 0 (Nat.ne_of_lt hlt2) (HZ1.out.below (below_alloc (Below.refl _ _) _))
  have hb2 := below_sets HB1.out.size g.l 0 (below_alloc HB1.out (.cells (FL.a ⟨false, false, false, false⟩) 25))
  change Code.wp _ _ _ _ ((w1.alloc (.cells (FL.a ⟨false, false, false, false⟩) 25)).setCells w1.heap.size 0 g.l)
  clear HK HZ HB HK1 HZ1 HB1 hlt hlt2
  generalize (w1.alloc (.cells (FL.a ⟨false, false, false, false⟩) 25)).setCells w1.heap.size 0 g.l = w2 at *
  have HK := aq (show Wk w2.drew w.heap.size i x f from hk2)
  have hz := show Fb w2.drew (w.heap.size + 1) ⟨false, false, false, false⟩ from hz2
  have HB := aq (below_drew1 hb2)
  clear hk2 hz2 hb2
  go_region_held3 (fun w' => Wk w' w.heap.size i x f) (with_reducible first | exact HK.out | exact HK1.out | exact HK2.out | exact HK1.out.far HNE.out _ | exact HK.out.far HNE.out _ | exact HK2.out.far HNE.out _) (fail)
  have F3 := aq (hz.put (g := f))
  have F4 := aq (below_sets (Nat.le_succ w.heap.size) (f).l 0 HB.out)
  clear hz
  go_wp2
  exact bodyPost_ret (results_list (rs := [.tmp 2, .cell 3 25]) rfl (by simp) (.tmp (.cell (w.heap.size + 1) 25 _ (0, 0) _ rfl F3.out under_fl rfl info_fl .nil))) rfl ⟨rfl, F4.out⟩
attribute [-go_sem] Instr.loadAt Instr.storeAt in
set_option maxHeartbeats 1000000 in
set_option maxRecDepth 100000 in
theorem wk_sub (i : INS) (x : ARG) (f : FL) (r : Int) (g : FL) (hC : WkRet 313 i x f r g) : WkRet 311 i x f r f := by
  intro w hTab
  obtain ⟨W, hW, hA, hZ, hB⟩ := two_new w (.cells (wkA i x f) 325) (.cells (FL.a ⟨false, false, false, false⟩) 25)
  have HW := aq hW
  have HK := aq (show Wk W w.heap.size i x f from hA)
  have HZ := aq (show Fb W (w.heap.size + 1) ⟨false, false, false, false⟩ from hZ)
  have HB := aq (show Below w.heap.size w W from hB)
  have HT := aq (fun (W : World) (hb : Below w.heap.size w W) => TabW.below hTab hb)
  have HNE := aq (Nat.ne_of_lt (Nat.lt_succ_self w.heap.size))
  have HC := aq hC
  have hst := fun (w' : World) (hk : Fb w' (w.heap.size + 1) ⟨false, false, false, false⟩) => hk.store (g := f)
  have hl0 := fun (w' : World) (hk : Wk w' w.heap.size i x f) => hk.loadF
  clear hW hA hZ hB hTab hC
  go_enter Tryz.func311, Tryz.ntmps311
  go_upto_region 1 with fail
  change Code.wp _ _ _ _ ((w.alloc (.cells (wkA i x f) 325)).alloc (.cells (FL.a ⟨false, false, false, false⟩) 25))
  rw [← HW.out]
  clear HW
  go_wp2_with (first | ((with_reducible refine gate_dst (N := 7) rfl ?_); refine wpList_load_mid rfl 325 (.tmp 1) rfl w.heap.size 0 rfl (wkL i x f) _ HK.out.range under_wk rfl info_wk ?_) | (go_at_call 313; refine (HC.out _ (HT.out _ HB.out)).mono ?_; rintro e w1 ⟨rfl, hb⟩; have HK1 := aq (HK.out.below hb); have HZ1 := aq (HZ.out.below hb); have HB1 := aq (below_step HB.out hb); clear hb) | ((with_reducible refine gate_store (t := 25) (p := 5) (v := .tmp 10) rfl ?_); refine wpList_store_mid rfl 25 (.tmp 5) (.tmp 10) rfl w1.heap.size 0 g.a rfl rfl (there_blk (blk_new w1 _) 0 4 (by decide)) info_fl g.one ?_))
  simp only [Act.put]
  have hlt := blk_lt HK1.out
  have hlt2 := blk_lt HZ1.out
  have hk2 := (HK1.out.below (below_alloc (Below.refl _ _) (.cells (FL.a ⟨false, false, false, false⟩) 25))).far (Nat.ne_of_lt hlt) g.l
  have hz2 : Fb (((w1.alloc (.cells (FL.a ⟨false, false, false, false⟩) 25)).setCells w1.heap.size 0 g.l)) (w.heap.size + 1) ⟨false, false, false, false⟩ := blk_sets_far g.l 0 (Nat.ne_of_lt hlt2) (HZ1.out.below (below_alloc (Below.refl _ _) _))
  have hb2 := below_sets HB1.out.size g.l 0 (below_alloc HB1.out (.cells (FL.a ⟨false, false, false, false⟩) 25))
  change Code.wp _ _ _ _ ((w1.alloc (.cells (FL.a ⟨false, false, false, false⟩) 25)).setCells w1.heap.size 0 g.l)
  clear HK HZ HB HK1 HZ1 HB1 hlt hlt2
  generalize (w1.alloc (.cells (FL.a ⟨false, false, false, false⟩) 25)).setCells w1.heap.size 0 g.l = w2 at *
  have HK := aq (show Wk w2.drew w.heap.size i x f from hk2)
  have hz := show Fb w2.drew (w.heap.size + 1) ⟨false, false, false, false⟩ from hz2
  have HB := aq (below_drew1 hb2)
  clear hk2 hz2 hb2
  go_region_held3 (fun w' => Wk w' w.heap.size i x f) (with_reducible first | exact HK.out | exact HK1.out | exact HK2.out | exact HK1.out.far HNE.out _ | exact HK.out.far HNE.out _ | exact HK2.out.far HNE.out _) (fail)
  have F3 := aq (hz.put (g := f))
  have F4 := aq (below_sets (Nat.le_succ w.heap.size) (f).l 0 HB.out)
  clear hz
  go_wp2
  exact bodyPost_ret (results_list (rs := [.tmp 2, .cell 3 25]) rfl (by simp) (.tmp (.cell (w.heap.size + 1) 25 _ (0, 0) _ rfl F3.out under_fl rfl info_fl .nil))) rfl ⟨rfl, F4.out⟩
attribute [-go_sem] Instr.loadAt Instr.storeAt in
set_option maxHeartbeats 1000000 in
set_option maxRecDepth 100000 in
theorem wk_csel_yes (i : INS) (x : ARG) (f : FL) (e : Int) (hF : ∀ w : World, Calls Tryz.prog 159 #[.int .i64 i.cd, .agg f.a] w fun e_ w' => e_ = .returned (.tuple #[.bool true, .int .i64 e]) ∧ Below w.heap.size w w') : WkRet 320 i x f x.n f := by
  intro w hTab
  obtain ⟨W, hW, hA, hZ, hB⟩ := two_new w (.cells (wkA i x f) 325) (.cells (FL.a ⟨false, false, false, false⟩) 25)
  have HW := aq hW
  have HK := aq (show Wk W w.heap.size i x f from hA)
  have HZ := aq (show Fb W (w.heap.size + 1) ⟨false, false, false, false⟩ from hZ)
  have HB := aq (show Below w.heap.size w W from hB)
  have HT := aq (fun (W : World) (hb : Below w.heap.size w W) => TabW.below hTab hb)
  have HNE := aq (Nat.ne_of_lt (Nat.lt_succ_self w.heap.size))
  have HF := aq hF
  have c9 : W.cell? ⟨w.heap.size, 9, none⟩ = some (.int .i64 i.cd) := (blk_cell hA 9).trans rfl
  have hlc := HK.out.int 9 i.cd rfl
  have hst := fun (w' : World) (hk : Fb w' (w.heap.size + 1) ⟨false, false, false, false⟩) => hk.store (g := f)
  have hl0 := fun (w' : World) (hk : Wk w' w.heap.size i x f) => hk.loadF
  have hl1 := fun (w' : World) (hk : Wk w' w.heap.size i x f) => hk.u64 11 x.n rfl
  clear hW hA hZ hB hTab hF c9
  go_enter Tryz.func320, Tryz.ntmps320
  go_upto_region 1 with fail
  change Code.wp _ _ _ _ ((w.alloc (.cells (wkA i x f) 325)).alloc (.cells (FL.a ⟨false, false, false, false⟩) 25))
  rw [← HW.out]
  clear HW
  go_upto_region 3 with (first | ((with_reducible refine gate_dst (N := 11) rfl ?_); refine wpList_load_mid rfl 25 (.tmp 10) rfl w.heap.size 14 rfl f.l _ HK.out.rangeF under_fl rfl info_fl ?_) | (go_at_call 159; refine (HF.out _).mono ?_; rintro e w1 ⟨rfl, hb⟩; have hk1 := HK.out.below hb; have hz1 := HZ.out.below hb; have hb1 := below_step HB.out hb; clear hb))
  clear HK HZ HB hlc
  have HK := aq (show Wk w1.drew w.heap.size i x f from hk1)
  have hz := show Fb w1.drew (w.heap.size + 1) ⟨false, false, false, false⟩ from hz1
  have HB := aq (below_drew1 hb1)
  clear hk1 hz1 hb1
  go_region_held3 (fun w' => Wk w' w.heap.size i x f) (with_reducible first | exact HK.out | exact HK1.out | exact HK2.out | exact HK1.out.far HNE.out _ | exact HK.out.far HNE.out _ | exact HK2.out.far HNE.out _) (fail)
  have F3 := aq (hz.put (g := f))
  have F4 := aq (below_sets (Nat.le_succ w.heap.size) (f).l 0 HB.out)
  clear hz
  go_wp2
  exact bodyPost_ret (results_list (rs := [.tmp 2, .cell 3 25]) rfl (by simp) (.tmp (.cell (w.heap.size + 1) 25 _ (0, 0) _ rfl F3.out under_fl rfl info_fl .nil))) rfl ⟨rfl, F4.out⟩
attribute [-go_sem] Instr.loadAt Instr.storeAt in
set_option maxHeartbeats 1000000 in
set_option maxRecDepth 100000 in
theorem wk_csel_no (i : INS) (x : ARG) (f : FL) (e : Int) (hF : ∀ w : World, Calls Tryz.prog 159 #[.int .i64 i.cd, .agg f.a] w fun e_ w' => e_ = .returned (.tuple #[.bool false, .int .i64 e]) ∧ Below w.heap.size w w') : WkRet 320 i x f x.m f := by
  intro w hTab
  obtain ⟨W, hW, hA, hZ, hB⟩ := two_new w (.cells (wkA i x f) 325) (.cells (FL.a ⟨false, false, false, false⟩) 25)
  have HW := aq hW
  have HK := aq (show Wk W w.heap.size i x f from hA)
  have HZ := aq (show Fb W (w.heap.size + 1) ⟨false, false, false, false⟩ from hZ)
  have HB := aq (show Below w.heap.size w W from hB)
  have HT := aq (fun (W : World) (hb : Below w.heap.size w W) => TabW.below hTab hb)
  have HNE := aq (Nat.ne_of_lt (Nat.lt_succ_self w.heap.size))
  have HF := aq hF
  have c9 : W.cell? ⟨w.heap.size, 9, none⟩ = some (.int .i64 i.cd) := (blk_cell hA 9).trans rfl
  have hlc := HK.out.int 9 i.cd rfl
  have hst := fun (w' : World) (hk : Fb w' (w.heap.size + 1) ⟨false, false, false, false⟩) => hk.store (g := f)
  have hl0 := fun (w' : World) (hk : Wk w' w.heap.size i x f) => hk.loadF
  have hl1 := fun (w' : World) (hk : Wk w' w.heap.size i x f) => hk.u64 12 x.m rfl
  clear hW hA hZ hB hTab hF c9
  go_enter Tryz.func320, Tryz.ntmps320
  go_upto_region 1 with fail
  change Code.wp _ _ _ _ ((w.alloc (.cells (wkA i x f) 325)).alloc (.cells (FL.a ⟨false, false, false, false⟩) 25))
  rw [← HW.out]
  clear HW
  go_upto_region 4 with (first | ((with_reducible refine gate_dst (N := 11) rfl ?_); refine wpList_load_mid rfl 25 (.tmp 10) rfl w.heap.size 14 rfl f.l _ HK.out.rangeF under_fl rfl info_fl ?_) | (go_at_call 159; refine (HF.out _).mono ?_; rintro e w1 ⟨rfl, hb⟩; have hk1 := HK.out.below hb; have hz1 := HZ.out.below hb; have hb1 := below_step HB.out hb; clear hb))
  clear HK HZ HB hlc
  have HK := aq (show Wk w1.drew w.heap.size i x f from hk1)
  have hz := show Fb w1.drew (w.heap.size + 1) ⟨false, false, false, false⟩ from hz1
  have HB := aq (below_drew1 hb1)
  clear hk1 hz1 hb1
  go_region_held3 (fun w' => Wk w' w.heap.size i x f) (with_reducible first | exact HK.out | exact HK1.out | exact HK2.out | exact HK1.out.far HNE.out _ | exact HK.out.far HNE.out _ | exact HK2.out.far HNE.out _) (fail)
  have F3 := aq (hz.put (g := f))
  have F4 := aq (below_sets (Nat.le_succ w.heap.size) (f).l 0 HB.out)
  clear hz
  go_wp2
  exact bodyPost_ret (results_list (rs := [.tmp 2, .cell 3 25]) rfl (by simp) (.tmp (.cell (w.heap.size + 1) 25 _ (0, 0) _ rfl F3.out under_fl rfl info_fl .nil))) rfl ⟨rfl, F4.out⟩
attribute [-go_sem] Instr.loadAt Instr.storeAt in
set_option maxHeartbeats 1000000 in
set_option maxRecDepth 100000 in
theorem wk_ands (i : INS) (x : ARG) (f : FL) (r : Int) (g : FL) (hC : WkRet 314 i x f r f) (hF : ∀ w : World, Calls Tryz.prog 352 #[.int .u64 r] w fun e w' => e = .returned (.agg g.a) ∧ Below w.heap.size w w') : WkRet 317 i x f r g := by
  intro w hTab
  obtain ⟨W, hW, hA, hZ, hB⟩ := two_new w (.cells (wkA i x f) 325) (.cells (FL.a ⟨false, false, false, false⟩) 25)
  have HW := aq hW
  have HK := aq (show Wk W w.heap.size i x f from hA)
  have HZ := aq (show Fb W (w.heap.size + 1) ⟨false, false, false, false⟩ from hZ)
  have HB := aq (show Below w.heap.size w W from hB)
  have HT := aq (fun (W : World) (hb : Below w.heap.size w W) => TabW.below hTab hb)
  have HNE := aq (Nat.ne_of_lt (Nat.lt_succ_self w.heap.size))
  have HC := aq hC
  have HF := aq hF
  clear hW hA hZ hB hTab hC hF
  go_enter Tryz.func317, Tryz.ntmps317
  go_upto_region 1 with fail
  change Code.wp _ _ _ _ ((w.alloc (.cells (wkA i x f) 325)).alloc (.cells (FL.a ⟨false, false, false, false⟩) 25))
  rw [← HW.out]
  clear HW
  go_upto_region 2 with (first | ((with_reducible refine gate_dst (N := 7) rfl ?_); refine wpList_load_mid rfl 325 (.tmp 1) rfl w.heap.size 0 rfl (wkL i x f) _ HK.out.range under_wk rfl info_wk ?_) | (go_at_call 314; refine (HC.out _ (HT.out _ HB.out)).mono ?_; rintro e w1 ⟨rfl, hb⟩; have HZ1 := aq (HZ.out.below hb); have HB1 := aq (below_step HB.out hb); clear hb) | ((with_reducible refine gate_store (t := 25) (p := 5) (v := .tmp 10) rfl ?_); refine wpList_store_mid rfl 25 (.tmp 5) (.tmp 10) rfl w1.heap.size 0 f.a rfl rfl (there_blk (blk_new w1 _) 0 4 (by decide)) info_fl f.one ?_))
  simp only [Act.put]
  have hlt2 := blk_lt HZ1.out
  have hz2 : Fb (((w1.alloc (.cells (FL.a ⟨false, false, false, false⟩) 25)).setCells w1.heap.size 0 f.l)) (w.heap.size + 1) ⟨false, false, false, false⟩ := blk_sets_far f.l 0 (Nat.ne_of_lt hlt2) (HZ1.out.below (below_alloc (Below.refl _ _) _))
  have hb2 := below_sets HB1.out.size f.l 0 (below_alloc HB1.out (.cells (FL.a ⟨false, false, false, false⟩) 25))
  change Code.wp _ _ _ _ ((w1.alloc (.cells (FL.a ⟨false, false, false, false⟩) 25)).setCells w1.heap.size 0 f.l)
  clear hlt2 HK HZ HB HZ1 HB1
  generalize (w1.alloc (.cells (FL.a ⟨false, false, false, false⟩) 25)).setCells w1.heap.size 0 f.l = w2 at *
  have HZ2 := aq hz2
  have HB2 := aq hb2
  clear hz2 hb2
  go_wp2_with (first | (go_at_call 352; refine (HF.out _).mono ?_; rintro e w3 ⟨rfl, hb⟩; have hz1 := HZ2.out.below hb; have HB3 := aq (below_step HB2.out hb); clear hb) | ((with_reducible refine gate_store (t := 25) (p := 3) (v := .tmp 13) rfl ?_); refine wpList_store_mid rfl 25 (.tmp 3) (.tmp 13) rfl (w.heap.size + 1) 0 g.a rfl rfl (there_blk hz1 0 4 (by decide)) info_fl g.one ?_))
  simp only [Act.put]
  have F3 := aq (hz1.put (g := g))
  have F4 := aq (below_sets (Nat.le_succ w.heap.size) g.l 0 HB3.out)
  clear hz1
  exact bodyPost_ret (results_list (rs := [.tmp 2, .cell 3 25]) rfl (by simp) (.tmp (.cell (w.heap.size + 1) 25 _ (0, 0) _ rfl F3.out under_fl rfl info_fl .nil))) rfl ⟨rfl, F4.out⟩
def CPU.base (c : CPU) (i : INS) : Int := IntKind.u64.wrap (c.reg i.n true + IntKind.u64.wrap i.im)
attribute [-go_sem] Instr.loadAt in
set_option maxHeartbeats 1000000 in
set_option maxRecDepth 100000 in
theorem base_at (c : CPU) (mp : Value) (i : INS) (t : Value) (M : Nat) (w : World) (hm : Mac w M c mp i t) (h0 : 0 ≤ i.n) (h1 : i.n ≤ 31) :
    Calls Tryz.prog 162 #[.pointer (some ⟨M, 0, none⟩)] w fun e w' => e = .returned (.int .u64 (c.base i)) ∧ Below w.heap.size w w' := by
  have HM := aq (show Mac w.drew M c mp i t from hm)
  have HG := aq (fun w hm => get_at c mp i t M i.n true w hm h0 h1)
  have hl1 := fun (w' : World) (h : Mac w' M c mp i t) => load_int M 40 i.n w' ((h.cell 40).trans rfl)
  have hl2 := fun (w' : World) (h : Mac w' M c mp i t) => load_int M 43 i.im w' ((h.cell 43).trans rfl)
  clear hm h0 h1
  unfold CPU.base
  generalize c.reg i.n true = r at *
  generalize i.n = n at hl1 HG
  generalize i.im = im at hl2 ⊢
  go_enter Tryz.func162, Tryz.ntmps162
  go_wp2
  go_region_held3 (fun w' => Mac w' M c mp i t) (first | exact HM.out | exact HM1.out) ((go_at_call 160; refine (HG.out _ HM.out).mono ?_; rintro e w1 ⟨rfl, hb⟩; have HM1 := aq (Mac.below HM.out hb); have HB1 := aq (show Below w.heap.size w w1 from Below.trans (below_drew1 (Below.refl w.heap.size w)) hb); clear hb))
  go_wp2
  go_ret
  exact ⟨rfl, HB1.out⟩
end Go.Proofs.YtblnfngigdipcaaGreatDoor.ST
