/- Written for this claim by a program of this session: what the claim uses of lemmas and proved contracts of Go functions. -/
import Derived.Test.YtflojfcioojgbaaGreatDoorYAl5
import Derived.Deep.MidRow
namespace Go.Proofs.YtflojfcioojgbaaGreatDoor.ST
open Go.RowKit Go.Proofs.YtflojfcioojgbaaGreatDoor.P Go.Proofs.YtflojfcioojgbaaGreatDoorW.PrintWords Go.Proofs.YtflojfcioojgbaaGreatDoorW.PrintLast Go.Proofs.YtflojfcioojgbaaGreatDoorW.PrintMore
set_option linter.unusedVariables false
set_option linter.unusedSimpArgs false
structure CPU where
  x : Nat → Int
  sp : Int
  pc : Int
  n : Bool
  z : Bool
  c : Bool
  v : Bool
def CPU.l (c : CPU) : List Value := [.int .u64 (c.x 0), .int .u64 (c.x 1), .int .u64 (c.x 2), .int .u64 (c.x 3), .int .u64 (c.x 4), .int .u64 (c.x 5), .int .u64 (c.x 6), .int .u64 (c.x 7), .int .u64 (c.x 8), .int .u64 (c.x 9), .int .u64 (c.x 10), .int .u64 (c.x 11), .int .u64 (c.x 12), .int .u64 (c.x 13), .int .u64 (c.x 14), .int .u64 (c.x 15), .int .u64 (c.x 16), .int .u64 (c.x 17), .int .u64 (c.x 18), .int .u64 (c.x 19), .int .u64 (c.x 20), .int .u64 (c.x 21), .int .u64 (c.x 22), .int .u64 (c.x 23), .int .u64 (c.x 24), .int .u64 (c.x 25), .int .u64 (c.x 26), .int .u64 (c.x 27), .int .u64 (c.x 28), .int .u64 (c.x 29), .int .u64 (c.x 30), .int .u64 c.sp, .int .u64 c.pc, .bool c.n, .bool c.z, .bool c.c, .bool c.v]
def CPU.a (c : CPU) : Array Value := c.l.toArray
def CPU.zero : CPU := ⟨fun _ => 0, 0, 0, false, false, false, false⟩
def CPU.setX (c : CPU) (n : Nat) (v : Int) : CPU := { c with x := fun i => if i = n then v else c.x i }
theorem lt31 {n : Nat} (h : n < 31) : n = 0 ∨ n = 1 ∨ n = 2 ∨ n = 3 ∨ n = 4 ∨ n = 5 ∨ n = 6 ∨ n = 7 ∨ n = 8 ∨ n = 9 ∨ n = 10 ∨ n = 11 ∨ n = 12 ∨ n = 13 ∨ n = 14 ∨ n = 15 ∨ n = 16 ∨ n = 17 ∨ n = 18 ∨ n = 19 ∨ n = 20 ∨ n = 21 ∨ n = 22 ∨ n = 23 ∨ n = 24 ∨ n = 25 ∨ n = 26 ∨ n = 27 ∨ n = 28 ∨ n = 29 ∨ n = 30 := by omega
theorem CPU.get (c : CPU) {n : Nat} (h : n < 31) : c.a[n]? = some (.int .u64 (c.x n)) := by
  rcases lt31 h with rfl | rfl | rfl | rfl | rfl | rfl | rfl | rfl | rfl | rfl | rfl | rfl | rfl | rfl | rfl | rfl | rfl | rfl | rfl | rfl | rfl | rfl | rfl | rfl | rfl | rfl | rfl | rfl | rfl | rfl | rfl <;> rfl
theorem CPU.set (c : CPU) {n : Nat} (h : n < 31) (v : Int) : c.a.setIfInBounds n (.int .u64 v) = (c.setX n v).a := by
  rcases lt31 h with rfl | rfl | rfl | rfl | rfl | rfl | rfl | rfl | rfl | rfl | rfl | rfl | rfl | rfl | rfl | rfl | rfl | rfl | rfl | rfl | rfl | rfl | rfl | rfl | rfl | rfl | rfl | rfl | rfl | rfl | rfl <;> simp [CPU.a, CPU.l, CPU.setX]
theorem CPU.one (c : CPU) : c.a.all (·.oneCell') = true := by simp [CPU.a, CPU.l, Value.oneCell']
theorem info_cpu : (Tryz.prog.info? 49).map (·.size) = some 37 := by kernel_rfl
theorem CPU.size (c : CPU) : c.a.size = 37 := rfl
def CPU.reg (c : CPU) (n : Int) (st : Bool) : Int := if n < 31 then c.x n.toNat else if st = true then c.sp else 0
def CPU.put (c : CPU) (n : Int) (st : Bool) (v : Int) : CPU := if n < 31 then c.setX n.toNat v else if st = true then { c with sp := v } else c
theorem under_cpu : Tryz.prog.underlying 49 = some (.struct (match Tryz.prog.underlying 49 with | some (.struct fs) => fs | _ => #[])) := by kernel_rfl
theorem range_blk {w : World} {g : Nat} {t : TypeId} {cs : Array Value} {fr : Nat × Nat} (h : w.heap[g]? = some (.cells cs t fr)) (o : Nat) (vs : List Value) (hv : ∀ j v, vs[j]? = some v → cs[o + j]? = some v) : w.rangeAt g o vs :=
  fun j v hj => (cell_of_row w g (o + j) cs t fr h).trans (hv j v hj)
theorem there_blk {w : World} {g : Nat} {t : TypeId} {cs : Array Value} (h : w.heap[g]? = some (.cells cs t (0, 0))) (o n : Nat) (hn : o + n ≤ cs.size) : w.there g o n :=
  fun j hj => ⟨by rw [blk_cell h, Array.getElem?_eq_getElem (by omega)]; rfl, blk_frozen h _⟩
def sets (A : Array Value) : Nat → List Value → Array Value
  | _, [] => A
  | o, v :: vs => sets (A.setIfInBounds o v) (o + 1) vs
theorem blk_sets {g : Nat} {t : TypeId} : ∀ (vs : List Value) (o : Nat) {w : World} {A : Array Value}, w.heap[g]? = some (.cells A t (0, 0)) → (w.setCells g o vs).heap[g]? = some (.cells (sets A o vs) t (0, 0))
  | [], _, _, _, h => h
  | v :: vs, o, _, _, h => blk_sets vs (o + 1) (blk_set h o v)
theorem blk_sets_far {g b : Nat} {ob : Obj} : ∀ (vs : List Value) (o : Nat) {w : World}, g ≠ b → w.heap[g]? = some ob → (w.setCells b o vs).heap[g]? = some ob
  | [], _, _, _, h => h
  | v :: vs, o, w, hn, h => blk_sets_far vs (o + 1) hn ((Below.heap_setCell w ⟨b, o, none⟩ v g hn).trans h)
theorem below_sets {B b : Nat} {u : World} (hb : B ≤ b) : ∀ (vs : List Value) (o : Nat) {w : World}, Below B u w → Below B u (w.setCells b o vs)
  | [], _, _, h => h
  | v :: vs, o, _, h => below_sets hb vs (o + 1) (h.setCell hb v)
theorem size_sets (b : Nat) : ∀ (vs : List Value) (o : Nat) (w : World), (w.setCells b o vs).heap.size = w.heap.size
  | [], _, _ => rfl
  | v :: vs, o, w => (size_sets b vs (o + 1) (w.setCell ⟨b, o, none⟩ v)).trans (by simp)
theorem reg_at (c : CPU) (n : Int) (st : Bool) (w : World) (h0 : 0 ≤ n) (h1 : n ≤ 31) :
    Calls Tryz.prog 165 #[.agg c.a, .int .i64 n, .bool st] w fun e w' => e = .returned (.tuple #[.int .u64 (c.reg n st), .int .i64 0]) ∧ Below w.heap.size w w' := by
  unfold CPU.reg
  by_cases h : n < 31
  · rw [if_pos h]
    have hc : (w.alloc (.cells c.a 49)).cell? ⟨w.heap.size, n.toNat, none⟩ = some (.int .u64 (c.x n.toNat)) := (blk_cell (blk_new w _) _).trans (c.get (by omega))
    have d1 : ¬ n < 0 := by omega
    have d2 : ¬ 31 < n := by omega
    generalize c.a = a at *
    generalize c.x n.toNat = v at *
    go_enter Tryz.func165, Tryz.ntmps165
    go_wp2
    go_ret2
    exact ⟨rfl, below_alloc (Below.refl _ _) _⟩
  · rw [if_neg h]
    obtain rfl : n = 31 := by omega
    have hs : (w.alloc (.cells c.a 49)).cell? ⟨w.heap.size, 31, none⟩ = some (.int .u64 c.sp) := (blk_cell (blk_new w _) _).trans rfl
    cases st
    · generalize c.a = a at *
      go_enter Tryz.func165, Tryz.ntmps165
      go_wp2
      go_ret2
      exact ⟨rfl, below_alloc (Below.refl _ _) _⟩
    · generalize c.a = a at *
      rw [if_pos rfl]
      generalize c.sp = v at *
      go_enter Tryz.func165, Tryz.ntmps165
      go_wp2
      go_ret2
      exact ⟨rfl, below_alloc (Below.refl _ _) _⟩
theorem CPU.range (c : CPU) {w : World} {b : Nat} {t : TypeId} {fr : Nat × Nat} (h : w.heap[b]? = some (.cells c.a t fr)) : w.rangeAt b 0 c.l := range_blk h 0 c.l fun j v hj => by rw [Nat.zero_add]; simpa [CPU.a] using hj
theorem CPU.sets_ (c d : CPU) : sets d.a 0 c.l = c.a := by simp [sets, CPU.a, CPU.l]
section
variable {ops : Array Oper} {rest : List Oper} {o : Oper} {a : Act} {Q : Exit → Act → World → Prop} {w : World}
theorem build_cpu0 (hg : o.guard = none) (ho : o.op = .build 49 #[]) (h : wpList Tryz.prog ops Q rest (a.put o.dst (.agg CPU.zero.a)) w) : wpList Tryz.prog ops Q (o :: rest) a w := by
  have e : (Tryz.prog.built 49 (((#[] : Array (Nat × Operand)).map fun (i, x) => (i, a.eval x)).toList)) = some CPU.zero.a := by
    rw [Array.map_empty]; kernel_rfl
  refine wpList_build hg 49 #[] ho (by rw [e]; rfl) ?_
  rw [e]
  exact h
end
section
variable {P : Program}
theorem exec_store {oi : Oper} {a : Act} {w w1 : World} {t : TypeId} {m v : Operand} (hop : oi.op = .store t m v) (hrun : Sem.run P (Instr.storeAt t (a.eval m) (a.eval v)) w = .ok () w1) : (execOp a.eval oi).run P w = .ok .skip w1 := by
  unfold execOp
  simp [hop, hrun, Result.andThen]
end
section
variable {P : Program} {md : Region.Mode} {ops : Array Oper} {ds : List Nat} {S : World → Prop} {Q : Exit → Act → World → Prop}
theorem pu_ {i : Nat} {oi : Oper} {N : Option Tmp} {v : Value} {fuel : Nat} {l : Array Bool} {a : Act} {w : World} (hc : anyB md ops l (l.setIfInBounds i true) i = true) (hi : ops[i]? = some oi) (hN : oi.dst = N) (hw : Region.wanted oi (yielded ops a.tmps) = true)
    (hQ : ∀ c a w, Q (.panic c) (a.put N v) w → Q (.panic c) a w) (hy : ∀ w, (execOp a.eval oi).run P w = .ok (.value v) w)
    (h : wpAnyLast P md ops Q S ds fuel (l.setIfInBounds i true) (a.put N v) w) : wpAnyLast P md ops Q S ds (fuel + 1) l a w := pure_ _ hi hN hc (by rw [hN]; exact hQ) (.inl ⟨hw, hy⟩) rfl h
theorem tk_ {i : Nat} {N : Tmp} {t : TypeId} {p : Operand} {v : Value} {fuel : Nat} {l : Array Bool} {a : Act} {w : World} (hc : takeB md ops ds l (l.setIfInBounds i true) i = true) (hop : (ops[i]?).map (fun o => (o.dst, o.op, o.guard)) = some (some N, .load t p, none))
    (hQ : ∀ c a w, Q (.panic c) (a.put (some N) v) w → Q (.panic c) a w) (hS : S w) (hy : ∀ w, S w → Sem.run P (Instr.loadAt t (a.eval p)) w = .ok v w)
    (h : wpAnyLast P md ops Q S ds fuel (l.setIfInBounds i true) (a.put (some N) v) w) : wpAnyLast P md ops Q S ds (fuel + 1) l a w := by
  cases hi : ops[i]? with
  | none => rw [hi] at hop; cases hop
  | some oi =>
    rw [hi] at hop
    simp only [Option.map_some, Option.some.injEq, Prod.mk.injEq] at hop
    obtain ⟨h1, h2, h3⟩ := hop
    refine take_ _ hi h1 hc (by rw [h1]; exact hQ) (.inl ⟨by unfold Region.wanted; rw [h3], fun w' hw => ?_⟩) hS rfl h
    unfold execOp
    simp [h2, hy w' hw, Result.andThen]
theorem cl_ {i : Nat} {oi : Oper} {N : Option Tmp} {fuel : Nat} {l : Array Bool} {a : Act} {w : World} (f : FuncId) (args : Array Value) {R : Ending → World → Prop} (hc : readyB md ops l (l.setIfInBounds i true) i = true) (hi : ops[i]? = some oi) (hN : oi.dst = N) (hd : i ∉ ds)
    (hw : Region.wanted oi (yielded ops a.tmps) = true) (hrun : (execOp a.eval oi).run P w = .ok (.enter f args) w) (hcall : Calls P f args w R)
    (h : ∀ e w', R e w' → ∃ v, e = .returned v ∧ S w' ∧ (S w' → wpAnyLast P md ops Q S ds fuel (l.setIfInBounds i true) (a.put N v) w')) : wpAnyLast P md ops Q S ds (fuel + 1) l a w :=
  one_ _ hi hN hc hd fun K hK => call_ f args hw hN hrun (hcall.mono fun e w' hr => by
    obtain ⟨v, e1, e2, e3⟩ := h e w' hr
    exact ⟨v, e1, hK.out _ _ e2 e3⟩)
theorem ls_ {i : Nat} {t : TypeId} {p x : Operand} {fuel : Nat} {l : Array Bool} {a : Act} {w : World} {w1 : World} (hc : readyB md ops l (l.setIfInBounds i true) i = true) (hop : (ops[i]?).map (fun o => (o.dst, o.op, o.guard)) = some (none, .store t p x, none)) (hd : i ∈ ds)
    (hrun : Sem.run P (Instr.storeAt t (a.eval p) (a.eval x)) w = .ok () w1) (h : wpAnyLast P md ops Q S ds fuel (l.setIfInBounds i true) a w1) : wpAnyLast P md ops Q S ds (fuel + 1) l a w := by
  cases hi : ops[i]? with
  | none => rw [hi] at hop; cases hop
  | some oi =>
    rw [hi] at hop
    simp only [Option.map_some, Option.some.injEq, Prod.mk.injEq] at hop
    obtain ⟨h1, h2, h3⟩ := hop
    refine last_ _ hi h1 hc hd fun K hK => ?_
    rw [if_pos (by unfold Region.wanted; rw [h3])]
    unfold Oper.wp
    rw [exec_store h2 hrun]
    show K (a.put oi.dst undef) w1
    rw [h1]
    exact hK.out _ _ h
end
theorem two_new (w : World) (o1 o2 : Obj) : ∃ W, W = (w.alloc o1).alloc o2 ∧ W.heap[w.heap.size]? = some o1 ∧ W.heap[w.heap.size + 1]? = some o2 ∧ Below w.heap.size w W := by
  refine ⟨_, rfl, blk_alloc (blk_new w o1) o2, ?_, below_alloc (below_alloc (Below.refl _ _) _) _⟩
  have e : w.heap.size + 1 = (w.alloc o1).heap.size := by show _ = (w.heap.push o1).size; rw [Array.size_push]
  rw [e]
  exact blk_new _ o2
structure INS where
  o : Int
  d : Int
  n : Int
  m : Int
  a : Int
  im : Int
  ms : Int
  sh : Int
  am : Int
  cd : Int
def INS.v (i : INS) : Array Value := #[.int .i64 i.o, .int .i64 i.d, .int .i64 i.n, .int .i64 i.m, .int .i64 i.a, .int .i64 i.im, .int .u64 i.ms, .int .i64 i.sh, .int .i64 i.am, .int .i64 i.cd]
def macA (c : CPU) (mp : Value) (i : INS) (t : Value) : Array Value := (c.l ++ [mp, .int .i64 i.o, .int .i64 i.d, .int .i64 i.n, .int .i64 i.m, .int .i64 i.a, .int .i64 i.im, .int .u64 i.ms, .int .i64 i.sh, .int .i64 i.am, .int .i64 i.cd, t]).toArray
theorem macA_cpu (c : CPU) (mp : Value) (i : INS) (t : Value) (j : Nat) (v : Value) (h : c.l[j]? = some v) : (macA c mp i t)[j]? = some v := by
  have hj : j < c.l.length := (List.getElem?_eq_some_iff.1 h).1
  unfold macA
  rw [List.getElem?_toArray, List.getElem?_append_left hj]
  exact h
theorem macA_sets (c c' : CPU) (mp : Value) (i : INS) (t : Value) : sets (macA c mp i t) 0 c'.l = macA c' mp i t := by simp [sets, macA, CPU.l]
def Mac (w : World) (M : Nat) (c : CPU) (mp : Value) (i : INS) (t : Value) : Prop := w.heap[M]? = some (.cells (macA c mp i t) 153 (0, 0))
theorem Mac.below {w w' : World} {M : Nat} {c : CPU} {mp : Value} {i : INS} {t : Value} (h : Mac w M c mp i t) (hb : Below w.heap.size w w') : Mac w' M c mp i t := blk_below h hb
theorem Mac.range {w : World} {M : Nat} {c : CPU} {mp : Value} {i : INS} {t : Value} (h : Mac w M c mp i t) : w.rangeAt M 0 c.l := range_blk h 0 c.l fun j v hj => by rw [Nat.zero_add]; exact macA_cpu c mp i t j v hj
theorem Mac.cell {w : World} {M : Nat} {c : CPU} {mp : Value} {i : INS} {t : Value} (h : Mac w M c mp i t) (j : Nat) : w.cell? ⟨M, j, none⟩ = (macA c mp i t)[j]? := blk_cell h j
theorem Mac.free {w : World} {M : Nat} {c : CPU} {mp : Value} {i : INS} {t : Value} (h : Mac w M c mp i t) (j : Nat) : w.frozen? ⟨M, j, none⟩ = false := blk_frozen h j
structure Only (w w' : World) (M : Nat) : Prop where
  block : ∀ k, k < w.heap.size → k ≠ M → w'.heap[k]? = w.heap[k]?
  size : w.heap.size ≤ w'.heap.size
  below : ∀ (B : Nat) (U : World), Below B U w → B ≤ M → B ≤ w.heap.size → Below B U w'
theorem Only.of_below {w w' : World} (M : Nat) (h : Below w.heap.size w w') : Only w w' M := ⟨fun k hk _ => h.block k hk, h.size, fun B U hu _ hs => hu.trans (h.mono hs)⟩
theorem Only.trans {w w1 w2 : World} {M : Nat} (h : Only w w1 M) (g : Only w1 w2 M) : Only w w2 M where
  block := fun k hk hn => (g.block k (Nat.lt_of_lt_of_le hk h.size) hn).trans (h.block k hk hn)
  size := Nat.le_trans h.size g.size
  below := fun B U hu hl hs => g.below B U (h.below B U hu hl hs) hl (Nat.le_trans hs h.size)
theorem Only.set (w : World) (M j : Nat) (v : Value) : Only w (w.setCell ⟨M, j, none⟩ v) M :=
  ⟨fun k _ hn => Below.heap_setCell w ⟨M, j, none⟩ v k hn, by simp, fun B U hu hl _ => hu.setCell hl v⟩
theorem Only.sets (w : World) (M o : Nat) (vs : List Value) : Only w (w.setCells M o vs) M where
  block := fun k hk hn => by
    have := blk_sets_far (b := M) vs o hn (Array.getElem?_eq_getElem hk)
    rw [this, Array.getElem?_eq_getElem hk]
  size := Nat.le_of_eq (size_sets M vs o w).symm
  below := fun B U hu hl _ => below_sets hl vs o hu
set_option maxRecDepth 100000 in
theorem get_at (c : CPU) (mp : Value) (i : INS) (t : Value) (M : Nat) (n : Int) (st : Bool) (w : World) (hm : Mac w M c mp i t) (h0 : 0 ≤ n) (h1 : n ≤ 31) :
    Calls Tryz.prog 106 #[.pointer (some ⟨M, 0, none⟩), .int .i64 n, .bool st] w fun e w' => e = .returned (.int .u64 (c.reg n st)) ∧ Below w.heap.size w w' := by
  have HM := aq hm
  have HR := aq (fun w => reg_at c n st w h0 h1)
  clear hm h0 h1
  generalize c.reg n st = r at *
  go_enter Tryz.func106, Tryz.ntmps106
  go_wp2_with (first | ((with_reducible refine gate_dst (N := 13) rfl ?_); refine wpList_load_mid rfl 49 (.tmp 12) rfl M 0 rfl c.l _ HM.out.range under_cpu rfl info_cpu ?_) | (go_at_call 165; refine (HR.out _).mono ?_; rintro e w1 ⟨rfl, hb⟩; have HB := aq hb; clear hb))
  trace_state
  go_ret
  exact ⟨rfl, HB.out⟩
theorem Mac.load27 {w : World} {M : Nat} {c : CPU} {mp : Value} {i : INS} {t : Value} (h : Mac w M c mp i t) : Sem.run Tryz.prog (Instr.loadAt 49 (.pointer (some ⟨M, 0, none⟩))) w = .ok (.agg c.a) w := run_loadAt_mid w M 0 49 c.l _ h.range under_cpu rfl info_cpu
theorem Mac.sets {w : World} {M : Nat} {c : CPU} {mp : Value} {i : INS} {t : Value} (h : Mac w M c mp i t) (c' : CPU) : Mac (w.setCells M 0 c'.l) M c' mp i t := by
  have := blk_sets c'.l 0 h
  rw [macA_sets] at this
  exact this
theorem load_u64 (M j : Nat) (v : Int) (w : World) (h : w.cell? ⟨M, j, none⟩ = some (.int .u64 v)) : Sem.run Tryz.prog (Instr.loadAt 22 (.pointer (some ⟨M, j, none⟩))) w = .ok (.int .u64 v) w := by go_simp
def putR.T : Bool × List (List Nat × List Nat) := (true, [([], []), ([], []), ([1], [1]), ([2], [2]), ([3], [3]), ([], []), ([5], [5]), ([6], [6]), ([7], [7]), ([8], [8]), ([], []), ([], []), ([4, 9, 10, 11], [4, 9, 10, 11]), ([12], [12]), ([13], [13]), ([13], [13]), ([0, 0, 1, 2, 3, 4, 5, 6, 7, 8, 9, 10, 11, 12, 13, 14], [0]), ([16, 0, 1, 2, 3, 4, 5, 6, 7, 8, 9, 10, 11, 12, 13, 14], [16]), ([17, 14, 12, 0, 1, 2, 3, 4, 5, 6, 7, 8, 9, 10, 11, 12, 13, 14], [14, 17])])
def putR.B : List Nat := [0, 0, 2, 6, 14, 0, 32, 96, 224, 480, 0, 0, 4094, 8190, 16382, 16382, 32767, 98303, 229375]
theorem putR.tab : rtab .any (opsOf Tryz.f110 0) = putR.T := by kernel_rfl
theorem putR.bits : waitsOk putR.T.2 putR.B = true := by kernel_rfl
theorem Mac.setX {w : World} {M : Nat} {c : CPU} {mp : Value} {i : INS} {t : Value} (h : Mac w M c mp i t) (v : Int) : Mac (w.setCell ⟨M, 30, none⟩ (.int .u64 v)) M (c.setX 30 v) mp i t := blk_put h 30 _ (by simp [macA, CPU.l, CPU.setX])
theorem Mac.setPc {w : World} {M : Nat} {c : CPU} {mp : Value} {i : INS} {t : Value} (h : Mac w M c mp i t) (v : Int) : Mac (w.setCell ⟨M, 32, none⟩ (.int .u64 v)) M { c with pc := v } mp i t := blk_put h 32 _ (by simp [macA, CPU.l])
theorem Mac.setT {w : World} {M : Nat} {c : CPU} {mp : Value} {i : INS} {t : Value} (h : Mac w M c mp i t) (v : Value) : Mac (w.setCell ⟨M, 48, none⟩ v) M c mp i v := blk_put h 48 _ (by simp [macA, CPU.l])
def CPU.base (c : CPU) (i : INS) : Int := IntKind.u64.wrap (c.reg i.n true + IntKind.u64.wrap i.im)
attribute [-go_sem] Instr.loadAt in
def CPU.near (c : CPU) (i : INS) : Int := IntKind.u64.wrap (c.pc + IntKind.u64.wrap i.im)
set_option maxHeartbeats 2000000 in
set_option maxRecDepth 100000 in
theorem branch_no (c : CPU) (mp : Value) (i : INS) (t : Value) (M : Nat) (w : World) (hm : Mac w M c mp i t) (ho : ∀ n : Int, 29 ≤ n → n ≤ 36 → i.o ≠ n) :
    Calls Tryz.prog 78 #[.pointer (some ⟨M, 0, none⟩)] w fun e w' => e = .returned (.bool false) ∧ Only w w' M ∧ Mac w' M c mp i t := by
  have cp : w.cell? ⟨M, 32, none⟩ = some (.int .u64 c.pc) := (hm.cell 32).trans rfl
  have ci : w.cell? ⟨M, 43, none⟩ = some (.int .i64 i.im) := (hm.cell 43).trans rfl
  have HM1 := aq (show Mac w.drew M c mp i t from hm)
  have HO1 := aq (Only.of_below M (below_drew1 (Below.refl w.heap.size w)))
  clear hm
  have HN := aq (show CPU.near c i = IntKind.u64.wrap (c.pc + IntKind.u64.wrap i.im) from rfl)
  go_enter Tryz.func78, Tryz.ntmps78
  go_upto_region 1 with fail
  go_region
  rw [← HN.out]
  generalize w.drew = w1 at *
  clear cp ci HN
  have co : w1.cell? ⟨M, 38, none⟩ = some (.int .i64 i.o) := (HM1.out.cell 38).trans rfl
  have d29 : (i.o == 29) = false := by simpa using ho 29 (by decide) (by decide)
  have d30 : (i.o == 30) = false := by simpa using ho 30 (by decide) (by decide)
  have d31 : (i.o == 31) = false := by simpa using ho 31 (by decide) (by decide)
  have d32 : (i.o == 32) = false := by simpa using ho 32 (by decide) (by decide)
  have d33 : (i.o == 33) = false := by simpa using ho 33 (by decide) (by decide)
  have d34 : (i.o == 34) = false := by simpa using ho 34 (by decide) (by decide)
  have d35 : (i.o == 35) = false := by simpa using ho 35 (by decide) (by decide)
  have d36 : (i.o == 36) = false := by simpa using ho 36 (by decide) (by decide)
  go_wp2
  go_ret
  exact ⟨rfl, HO1.out, HM1.out⟩
set_option maxHeartbeats 2000000 in
set_option maxRecDepth 100000 in
theorem call_0 (c : CPU) (mp : Value) (i : INS) (t : Value) (M : Nat) (w : World) (hm : Mac w M c mp i t) (ho : i.im = 0) :
    Calls Tryz.prog 112 #[.pointer (some ⟨M, 0, none⟩)] w fun e w' => e = .returned (.int .i64 0) ∧ Only w w' M ∧ Mac w' M c mp i (.iface 158 (.int .u64 (c.x 0))) := by
  have ci : w.cell? ⟨M, 43, none⟩ = some (.int .i64 i.im) := (hm.cell 43).trans rfl
  have cx : w.cell? ⟨M, 0, none⟩ = some (.int .u64 (c.x 0)) := (hm.cell 0).trans rfl
  have ct : w.cell? ⟨M, 48, none⟩ = some t := (hm.cell 48).trans rfl
  have ft := hm.free 48
  have H := aq hm
  clear hm
  rw [ho] at ci
  go_enter Tryz.func112, Tryz.ntmps112
  go_wp2
  go_ret
  exact ⟨rfl, Only.set _ _ _ _, H.out.setT _⟩
end Go.Proofs.YtflojfcioojgbaaGreatDoor.ST
