/- Written for this claim by a program of this session: what the claim uses of lemmas and proved contracts of Go functions. -/
import Derived.Test.YtblnfngigdipcaaGreatDoorYSu6
import Derived.MapFrom
namespace Go.Proofs.YtblnfngigdipcaaGreatDoor.ST
open Go.RowKit Go.Proofs.YtblnfngigdipcaaGreatDoor.P Go.Proofs.YtblnfngigdipcaaGreatDoorW.PrintWords Go.Proofs.YtblnfngigdipcaaGreatDoorW.PrintLast Go.Proofs.YtblnfngigdipcaaGreatDoorW.PrintMore
set_option linter.unusedVariables false
set_option linter.unusedSimpArgs false
theorem al2_last (w : World) (o1 o2 : Obj) : ((w.alloc o1).alloc o2).heap[w.heap.size + 1]? = some o2 := by
  have e : w.heap.size + 1 = (w.alloc o1).heap.size := by show _ = (w.heap.push o1).size; rw [Array.size_push]
  rw [e]
  exact heap_last_ (w.alloc o1) o2
theorem al_lt (w : World) (o : Obj) : w.heap.size < (w.alloc o).heap.size := by
  show w.heap.size < (w.heap.push o).size
  rw [Array.size_push]; exact Nat.lt_succ_self _
theorem al2_lt (w : World) (o1 o2 : Obj) : w.heap.size + 1 < ((w.alloc o1).alloc o2).heap.size := by
  show _ < ((w.heap.push o1).push o2).size
  rw [Array.size_push, Array.size_push]; exact Nat.lt_succ_self _
def ofV (s imm mask m shift amount : Int) : Value := if s = 1 ∨ s = 2 then .iface 367 (.agg #[.int .u64 (IntKind.u64.wrap imm), .int .i64 0, .int .i64 amount]) else if s = 3 then .iface 365 (.int .u64 mask) else .iface 367 (.agg #[.int .u64 m, .int .i64 shift, .int .i64 amount])
set_option maxHeartbeats 4000000 in
theorem alu_of.calls (i0 i1 i2 i3 i4 i5 i6 i7 i8 i9 x0 x1 x2 x3 s : Int) (w : World) (h : inst_Shape.f i0 = some s) :
    Calls Tryz.prog 367 #[.agg #[.int .i64 i0, .int .i64 i1, .int .i64 i2, .int .i64 i3, .int .i64 i4, .int .i64 i5, .int .u64 i6, .int .i64 i7, .int .i64 i8, .int .i64 i9], .agg #[.int .u64 x0, .int .u64 x1, .int .u64 x2, .int .u64 x3]] w fun e w' => e = .returned (ofV s i5 i6 x2 i7 i8) ∧ Below w.heap.size w w' := by
  have H := aq h
  clear h
  by_cases c1 : s = 1
  · subst c1
    go_enter Tryz.func367, Tryz.ntmps367
    go_wp2_with (first | (go_at_call 30; refine (inst_Shape.calls _ _ _ H.out).mono ?_; rintro e w1 ⟨rfl, hb1⟩; have bkA := (hb1.block w.heap.size (Nat.lt_trans (al_lt w _) (al_lt _ _))).trans (blk_alloc (heap_last_ w _) _); have bkB := (hb1.block (w.heap.size + 1) (al2_lt w _ _)).trans (al2_last w _ _); have HB := aq (below_step (below_alloc (below_alloc (Below.refl _ _) _) _) hb1); obtain ⟨a0, a1, a2, a3, a4, a5, a6, a7, a8, a9⟩ := cells10_ bkA; obtain ⟨b0, b1, b2, b3⟩ := cells4_ bkB; clear hb1 bkA bkB))
    go_ret
    exact ⟨rfl, HB.out⟩
  · by_cases c2 : s = 2
    · subst c2
      go_enter Tryz.func367, Tryz.ntmps367
      go_wp2_with (first | (go_at_call 30; refine (inst_Shape.calls _ _ _ H.out).mono ?_; rintro e w1 ⟨rfl, hb1⟩; have bkA := (hb1.block w.heap.size (Nat.lt_trans (al_lt w _) (al_lt _ _))).trans (blk_alloc (heap_last_ w _) _); have bkB := (hb1.block (w.heap.size + 1) (al2_lt w _ _)).trans (al2_last w _ _); have HB := aq (below_step (below_alloc (below_alloc (Below.refl _ _) _) _) hb1); obtain ⟨a0, a1, a2, a3, a4, a5, a6, a7, a8, a9⟩ := cells10_ bkA; obtain ⟨b0, b1, b2, b3⟩ := cells4_ bkB; clear hb1 bkA bkB))
      go_ret
      exact ⟨rfl, HB.out⟩
    · by_cases c3 : s = 3
      · subst c3
        go_enter Tryz.func367, Tryz.ntmps367
        go_wp2_with (first | (go_at_call 30; refine (inst_Shape.calls _ _ _ H.out).mono ?_; rintro e w1 ⟨rfl, hb1⟩; have bkA := (hb1.block w.heap.size (Nat.lt_trans (al_lt w _) (al_lt _ _))).trans (blk_alloc (heap_last_ w _) _); have bkB := (hb1.block (w.heap.size + 1) (al2_lt w _ _)).trans (al2_last w _ _); have HB := aq (below_step (below_alloc (below_alloc (Below.refl _ _) _) _) hb1); obtain ⟨a0, a1, a2, a3, a4, a5, a6, a7, a8, a9⟩ := cells10_ bkA; obtain ⟨b0, b1, b2, b3⟩ := cells4_ bkB; clear hb1 bkA bkB))
        go_ret
        exact ⟨rfl, HB.out⟩
      · have e : ofV s i5 i6 x2 i7 i8 = .iface 367 (.agg #[.int .u64 x2, .int .i64 i7, .int .i64 i8]) := by unfold ofV; rw [if_neg (by omega), if_neg c3]
        rw [e]
        have d1 : (s == 1) = false := by simpa using c1
        have d2 : (s == 2) = false := by simpa using c2
        have d3 : (s == 3) = false := by simpa using c3
        go_enter Tryz.func367, Tryz.ntmps367
        go_wp2_with (first | (go_at_call 30; refine (inst_Shape.calls _ _ _ H.out).mono ?_; rintro e w1 ⟨rfl, hb1⟩; have bkA := (hb1.block w.heap.size (Nat.lt_trans (al_lt w _) (al_lt _ _))).trans (blk_alloc (heap_last_ w _) _); have bkB := (hb1.block (w.heap.size + 1) (al2_lt w _ _)).trans (al2_last w _ _); have HB := aq (below_step (below_alloc (below_alloc (Below.refl _ _) _) _) hb1); obtain ⟨a0, a1, a2, a3, a4, a5, a6, a7, a8, a9⟩ := cells10_ bkA; obtain ⟨b0, b1, b2, b3⟩ := cells4_ bkB; clear hb1 bkA bkB))
        go_ret
        exact ⟨rfl, HB.out⟩
theorem run_ta1 (W : World) (v : Value) : Sem.run Tryz.prog (Instr.typeAssert (.iface 367 v) 363 365 true) W = .ok (.tuple #[.int .u64 0, .bool false]) W := by kernel_rfl
theorem run_ta2 (W : World) (v : Value) : Sem.run Tryz.prog (Instr.typeAssert (.iface 367 v) 363 367 true) W = .ok (.tuple #[v, .bool true]) W := by kernel_rfl
theorem run_ta3 (W : World) (v : Value) : Sem.run Tryz.prog (Instr.typeAssert (.iface 365 v) 363 365 true) W = .ok (.tuple #[v, .bool true]) W := by kernel_rfl
def secF (s : Int) (i5 i6 i7 i8 x2 : Int) : Option Int := if s = 1 ∨ s = 2 then (flag_Shift.f 1 (IntKind.u64.wrap i5) 0 i8).bind fun p => some p.1 else if s = 3 then some i6 else (flag_Shift.f 1 x2 i7 i8).bind fun p => some p.1
set_option maxHeartbeats 8000000 in
theorem alu_v.calls (s : Int) (i0 i1 i2 i3 i4 i5 i6 i7 i8 i9 x0 x1 x2 x3 : Int) (f0 f1 f2 f3 : Bool) (r : Int) (w : World) (hs : inst_Shape.f i0 = some s) (h : secF s i5 i6 i7 i8 x2 = some r) :
    Calls Tryz.prog 349 #[.agg #[.int .i64 i0, .int .i64 i1, .int .i64 i2, .int .i64 i3, .int .i64 i4, .int .i64 i5, .int .u64 i6, .int .i64 i7, .int .i64 i8, .int .i64 i9, .int .u64 x0, .int .u64 x1, .int .u64 x2, .int .u64 x3, .bool f0, .bool f1, .bool f2, .bool f3]] w fun e w' => e = .returned (.int .u64 r) ∧ Below w.heap.size w w' := by
  unfold secF at h
  have HS := aq hs
  clear hs
  by_cases c1 : s = 1 ∨ s = 2
  · rw [if_pos c1] at h
    obtain ⟨⟨p1, p2⟩, hp, h⟩ := Option.bind_eq_some_iff.mp h
    obtain rfl := Option.some.inj h
    have HP := aq hp
    have e : ofV s i5 i6 x2 i7 i8 = .iface 367 (.agg #[.int .u64 (IntKind.u64.wrap i5), .int .i64 0, .int .i64 i8]) := if_pos c1
    have E := aq e
    clear hp h e
    have ta1 := run_ta1
    have ta2 := run_ta2
    go_enter Tryz.func349, Tryz.ntmps349
    go_wp2_with (first | (go_at_call 367; refine (alu_of.calls _ _ _ _ _ _ _ _ _ _ _ _ _ _ _ _ HS.out).mono ?_; rw [E.out]; rintro e w1 ⟨rfl, hb1⟩; have HB := aq (below_step (below_alloc (Below.refl _ _) _) hb1); clear hb1) | (go_at_call 368; refine (flag_Shift.calls _ _ _ _ _ _ _ HP.out).mono ?_; rintro e w2 ⟨rfl, ⟨n2, rfl⟩⟩))
    go_ret
    exact ⟨rfl, below_step HB.out (pw_below_drewN (below_alloc (Below.refl _ _) _) _)⟩
  · rw [if_neg c1] at h
    by_cases c3 : s = 3
    · subst c3
      rw [if_pos rfl] at h
      obtain rfl := Option.some.inj h
      have e : ofV 3 i5 i6 x2 i7 i8 = .iface 365 (.int .u64 i6) := rfl
      have E := aq e
      clear h e
      have ta3 := run_ta3
      go_enter Tryz.func349, Tryz.ntmps349
      go_wp2_with (first | (go_at_call 367; refine (alu_of.calls _ _ _ _ _ _ _ _ _ _ _ _ _ _ _ _ HS.out).mono ?_; rw [E.out]; rintro e w1 ⟨rfl, hb1⟩; have HB := aq (below_step (below_alloc (Below.refl _ _) _) hb1); clear hb1) | (go_at_call 368; refine (flag_Shift.calls _ _ _ _ _ _ _ HP.out).mono ?_; rintro e w2 ⟨rfl, ⟨n2, rfl⟩⟩))
      go_ret
      exact ⟨rfl, HB.out⟩
    · rw [if_neg c3] at h
      obtain ⟨⟨p1, p2⟩, hp, h⟩ := Option.bind_eq_some_iff.mp h
      obtain rfl := Option.some.inj h
      have HP := aq hp
      have e : ofV s i5 i6 x2 i7 i8 = .iface 367 (.agg #[.int .u64 x2, .int .i64 i7, .int .i64 i8]) := by unfold ofV; rw [if_neg c1, if_neg c3]
      have E := aq e
      clear hp h e
      have ta1 := run_ta1
      have ta2 := run_ta2
      go_enter Tryz.func349, Tryz.ntmps349
      go_wp2_with (first | (go_at_call 367; refine (alu_of.calls _ _ _ _ _ _ _ _ _ _ _ _ _ _ _ _ HS.out).mono ?_; rw [E.out]; rintro e w1 ⟨rfl, hb1⟩; have HB := aq (below_step (below_alloc (Below.refl _ _) _) hb1); clear hb1) | (go_at_call 368; refine (flag_Shift.calls _ _ _ _ _ _ _ HP.out).mono ?_; rintro e w2 ⟨rfl, ⟨n2, rfl⟩⟩))
      go_ret
      exact ⟨rfl, below_step HB.out (pw_below_drewN (below_alloc (Below.refl _ _) _) _)⟩
theorem sec_of (i : INS) (x : ARG) (f : FL) (s V : Int) (hs : inst_Shape.f i.o = some s) (h : secF s i.im i.ms i.sh i.am x.m = some V) : SecV i x f V :=
  fun w _ => alu_v.calls s i.o i.d i.n i.m i.a i.im i.ms i.sh i.am i.cd x.d x.n x.m x.a f.n f.z f.c f.v V w hs h
def alu_fn (op : Int) : Nat := if op = 1 then 307 else if op = 2 then 308 else if op = 3 then 309 else if op = 4 then 310 else if op = 5 then 311 else if op = 6 then 312 else if op = 7 then 313 else if op = 8 then 314 else if op = 9 then 315 else if op = 10 then 316 else if op = 11 then 317 else if op = 12 then 310 else if op = 13 then 311 else if op = 14 then 312 else if op = 15 then 313 else if op = 16 then 314 else if op = 17 then 315 else if op = 18 then 316 else if op = 19 then 317 else if op = 20 then 318 else if op = 21 then 319 else if op = 39 then 320 else 0
def ments (x : Value) : List (Int × Nat) → Nat → List MapEntry
  | [], _ => []
  | (k, f) :: r, n => { key := .int .i64 k, val := .func (.func f) #[x] #[], born := n } :: ments x r (n + 1)
theorem ments_push (x : Value) (key : Int) (f : Nat) : ∀ (L : List (Int × Nat)) (n : Nat), ments x (L ++ [(key, f)]) n = ments x L n ++ [{ key := .int .i64 key, val := .func (.func f) #[x] #[], born := n + L.length }]
  | [], n => rfl
  | (k, g) :: r, n => by
    have := ments_push x key f r (n + 1)
    simp only [List.cons_append, ments, this, List.length_cons]
    rw [show n + 1 + r.length = n + (r.length + 1) by omega]
theorem find_none (x : Value) (key : Int) : ∀ (L : List (Int × Nat)) (n i : Nat), (∀ p ∈ L, p.1 ≠ key) → Instr.findNow (.int .i64) (.int .i64 key) (ments x L n) i = some none
  | [], n, i, _ => rfl
  | (k, g) :: r, n, i, h => by
    have hk : (key == k) = false := by simpa using fun e => h (k, g) (by simp) e.symm
    simp only [ments, Instr.findNow, Instr.sameNow, if_true, hk]
    exact find_none x key r (n + 1) (i + 1) fun p hp => h p (by simp [hp])
def mfind (key : Int) : List (Int × Nat) → Option Nat
  | [] => none
  | (k, f) :: r => if key = k then some f else mfind key r
theorem find_some (x : Value) (key : Int) : ∀ (L : List (Int × Nat)) (n i f : Nat), mfind key L = some f → ∃ j, Instr.findNow (.int .i64) (.int .i64 key) (ments x L n) i = some (some (j, .func (.func f) #[x] #[]))
  | [], n, i, f, h => by cases h
  | (k, g) :: r, n, i, f, h => by
    unfold mfind at h
    by_cases e : key = k
    · rw [if_pos e] at h
      obtain rfl := Option.some.inj h
      exact ⟨i, by simp [ments, Instr.findNow, Instr.sameNow, e]⟩
    · rw [if_neg e] at h
      have hk : (key == k) = false := by simpa using e
      obtain ⟨j, hj⟩ := find_some x key r (n + 1) (i + 1) f h
      exact ⟨j, by simp only [ments, Instr.findNow, Instr.sameNow, if_true, hk]; exact hj⟩
def mworld (W : World) (x : Value) (L : List (Int × Nat)) : World := W.alloc (.map (ments x L 0).toArray L.length)
theorem mworld_heap (W : World) (x : Value) (L : List (Int × Nat)) : (mworld W x L).heap[W.heap.size]? = some (.map (ments x L 0).toArray L.length) := by
  show (W.heap.push _)[W.heap.size]? = _
  simp
theorem push_set_ {α : Type} (a : Array α) (x y : α) : (a.push x).setIfInBounds a.size y = a.push y := by
  apply Array.ext'
  simp
theorem mput (W : World) (x : Value) (L : List (Int × Nat)) (key : Int) (f : Nat) (h : ∀ p ∈ L, p.1 ≠ key) :
    Sem.run Tryz.prog (Instr.mapUpdate 327 (.map (some W.heap.size)) (.int .i64 key) (.func (.func f) #[x] #[])) (mworld W x L) = .ok () (mworld W x (L ++ [(key, f)])) := by
  have hb := mworld_heap W x L
  have hf := find_none x key L 0 0 h
  simp [Instr.mapUpdate, run_underlying Tryz.underlying327, MapKept.run_getObj_map hb, MapKept.run_checkKey (d := .int .i64) (k := .int .i64 key) Tryz.underlying3 (by simp [MapKept.IsKey]), MapKept.run_findKey Tryz.underlying3 hf, MapKept.run_setObj_map _ hb, Result.andThen]
  rw [show (mworld W x L).heap = W.heap.push (.map (ments x L 0).toArray L.length) from rfl, push_set_]
  unfold mworld
  rw [ments_push, List.length_append]
  simp only [List.push_toArray, Nat.zero_add, List.length_singleton]
  rfl
theorem mlook (W : World) (x : Value) (L : List (Int × Nat)) (key : Int) (f : Nat) (h : mfind key L = some f) :
    Sem.run Tryz.prog (Instr.lookup 327 (.map (some W.heap.size)) (.int .i64 key) false) (mworld W x L) = .ok (.func (.func f) #[x] #[]) (mworld W x L) := by
  have hb := mworld_heap W x L
  obtain ⟨j, hj⟩ := find_some x key L 0 0 f h
  simp [Instr.lookup, run_underlying Tryz.underlying327, MapKept.run_getObj_map hb, MapKept.run_checkKey (d := .int .i64) (k := .int .i64 key) Tryz.underlying3 (by simp [MapKept.IsKey]), MapKept.run_findKey Tryz.underlying3 hj, Result.andThen]
theorem mmake (W : World) (x : Value) : Sem.run Tryz.prog (Instr.makeMap 327 none) W = .ok (.map (some W.heap.size)) (mworld W x []) := by
  simp [Instr.makeMap, run_underlying Tryz.underlying327, Result.andThen, mworld, ments]
theorem hl_ (w : World) (o : Obj) : (w.alloc o).heap[w.heap.size]? = some o := by
  show (w.heap.push o)[w.heap.size]? = _
  simp
def mKeys : List (Int × Nat) := [(1, 307), (2, 308), (3, 309), (4, 310), (5, 311), (6, 312), (7, 313), (8, 314), (9, 315), (10, 316), (11, 317), (12, 310), (13, 311), (14, 312), (15, 313), (16, 314), (17, 315), (18, 316), (19, 317), (20, 318), (21, 319), (39, 320)]
def mW (W : World) (x : Value) (j : Nat) : World := mworld W x (mKeys.take j)
theorem mW_put (W : World) (x : Value) (M j : Nat) (key : Int) (f : Nat) (hM : M = W.heap.size) (hj : mKeys.take (j + 1) = mKeys.take j ++ [(key, f)]) (h : (mKeys.take j).all (fun p => p.1 != key) = true) :
    Sem.run Tryz.prog (Instr.mapUpdate 327 (.map (some M)) (.int .i64 key) (.func (.func f) #[x] #[])) (mW W x j) = .ok () (mW W x (j + 1)) := by
  subst hM
  unfold mW
  rw [hj]
  exact mput W x _ key f fun p hp => by simpa using List.all_eq_true.1 h p hp
theorem mW_make (W : World) (x : Value) (M : Nat) (hM : M = W.heap.size) : Sem.run Tryz.prog (Instr.makeMap 327 none) W = .ok (.map (some M)) (mW W x 0) := by
  subst hM
  exact mmake W x
theorem mW_below {B : Nat} {a W : World} (h : Below B a W) (hB : B ≤ W.heap.size) (x : Value) (j : Nat) : Below B a (mW W x j) := h.alloc hB _
theorem mW_block (W : World) (x : Value) (j g : Nat) (h : g < W.heap.size) : (mW W x j).heap[g]? = W.heap[g]? := Below.heap_alloc W _ g h
theorem alu_key {op : Int} (h : op = 1 ∨ op = 2 ∨ op = 3 ∨ op = 4 ∨ op = 5 ∨ op = 6 ∨ op = 7 ∨ op = 8 ∨ op = 9 ∨ op = 10 ∨ op = 11 ∨ op = 12 ∨ op = 13 ∨ op = 14 ∨ op = 15 ∨ op = 16 ∨ op = 17 ∨ op = 18 ∨ op = 19 ∨ op = 20 ∨ op = 21 ∨ op = 39) : mfind op mKeys = some (alu_fn op) := by
  rcases h with rfl | rfl | rfl | rfl | rfl | rfl | rfl | rfl | rfl | rfl | rfl | rfl | rfl | rfl | rfl | rfl | rfl | rfl | rfl | rfl | rfl | rfl <;> rfl
theorem alu_enters {op : Int} (h : op = 1 ∨ op = 2 ∨ op = 3 ∨ op = 4 ∨ op = 5 ∨ op = 6 ∨ op = 7 ∨ op = 8 ∨ op = 9 ∨ op = 10 ∨ op = 11 ∨ op = 12 ∨ op = 13 ∨ op = 14 ∨ op = 15 ∨ op = 16 ∨ op = 17 ∨ op = 18 ∨ op = 19 ∨ op = 20 ∨ op = 21 ∨ op = 39) (x : Value) (W : World) : Sem.run Tryz.prog (callFunc (alu_fn op) #[x]) W = .ok (.enter (alu_fn op) #[x]) W := by
  rcases h with rfl | rfl | rfl | rfl | rfl | rfl | rfl | rfl | rfl | rfl | rfl | rfl | rfl | rfl | rfl | rfl | rfl | rfl | rfl | rfl | rfl | rfl
  · exact enters_ Tryz.func307 (by kernel_rfl) rfl _ _
  · exact enters_ Tryz.func308 (by kernel_rfl) rfl _ _
  · exact enters_ Tryz.func309 (by kernel_rfl) rfl _ _
  · exact enters_ Tryz.func310 (by kernel_rfl) rfl _ _
  · exact enters_ Tryz.func311 (by kernel_rfl) rfl _ _
  · exact enters_ Tryz.func312 (by kernel_rfl) rfl _ _
  · exact enters_ Tryz.func313 (by kernel_rfl) rfl _ _
  · exact enters_ Tryz.func314 (by kernel_rfl) rfl _ _
  · exact enters_ Tryz.func315 (by kernel_rfl) rfl _ _
  · exact enters_ Tryz.func316 (by kernel_rfl) rfl _ _
  · exact enters_ Tryz.func317 (by kernel_rfl) rfl _ _
  · exact enters_ Tryz.func310 (by kernel_rfl) rfl _ _
  · exact enters_ Tryz.func311 (by kernel_rfl) rfl _ _
  · exact enters_ Tryz.func312 (by kernel_rfl) rfl _ _
  · exact enters_ Tryz.func313 (by kernel_rfl) rfl _ _
  · exact enters_ Tryz.func314 (by kernel_rfl) rfl _ _
  · exact enters_ Tryz.func315 (by kernel_rfl) rfl _ _
  · exact enters_ Tryz.func316 (by kernel_rfl) rfl _ _
  · exact enters_ Tryz.func317 (by kernel_rfl) rfl _ _
  · exact enters_ Tryz.func318 (by kernel_rfl) rfl _ _
  · exact enters_ Tryz.func319 (by kernel_rfl) rfl _ _
  · exact enters_ Tryz.func320 (by kernel_rfl) rfl _ _
theorem al4 (w : World) (o0 o1 o2 o3 : Obj) : ((((w.alloc o0).alloc o1).alloc o2).alloc o3).heap[w.heap.size]? = some o0 ∧ ((((w.alloc o0).alloc o1).alloc o2).alloc o3).heap[w.heap.size + 1]? = some o1 ∧ ((((w.alloc o0).alloc o1).alloc o2).alloc o3).heap[w.heap.size + 2]? = some o2 ∧ ((((w.alloc o0).alloc o1).alloc o2).alloc o3).heap[w.heap.size + 3]? = some o3 ∧ w.heap.size + 4 = ((((w.alloc o0).alloc o1).alloc o2).alloc o3).heap.size := by
  have s1 : w.heap.size + 1 = (w.alloc o0).heap.size := by show _ = (w.heap.push _).size; rw [Array.size_push]
  have s2 : w.heap.size + 2 = ((w.alloc o0).alloc o1).heap.size := by show _ = ((w.alloc o0).heap.push _).size; rw [Array.size_push, ← s1]
  have s3 : w.heap.size + 3 = (((w.alloc o0).alloc o1).alloc o2).heap.size := by show _ = (((w.alloc o0).alloc o1).heap.push _).size; rw [Array.size_push, ← s2]
  refine ⟨blk_alloc (blk_alloc (blk_alloc (hl_ w o0) _) _) _, ?_, ?_, ?_, ?_⟩
  · rw [s1]; exact blk_alloc (blk_alloc (hl_ _ o1) _) _
  · rw [s2]; exact blk_alloc (hl_ _ o2) _
  · rw [s3]; exact hl_ _ o3
  · show _ = ((((w.alloc o0).alloc o1).alloc o2).heap.push _).size; rw [Array.size_push, ← s3]
theorem mKeys_take : mKeys.take 22 = mKeys := rfl
theorem mW_look (W : World) (x : Value) (M : Nat) (hM : M = W.heap.size) (key : Int) (f : Nat) (h : mfind key mKeys = some f) : Sem.run Tryz.prog (Instr.lookup 327 (.map (some M)) (.int .i64 key) false) (mW W x 22) = .ok (.func (.func f) #[x] #[]) (mW W x 22) := by
  subst hM
  unfold mW
  rw [mKeys_take]
  exact mlook W x mKeys key f h
section
variable {P : Program} {ops : Array Oper} {Q : Exit → Act → World → Prop} {rest : List Oper}
theorem stepV {oi : Oper} {a : Act} {w w1 : World} {v : Value} (N : Option Tmp) (hd : oi.dst = N) (hg : oi.guard = none) (hrun : (execOp a.eval oi).run P w = .ok (.value v) w1) {a' : Act} (ha : a.put N v = a') (h : wpList P ops Q rest a' w1) : wpList P ops Q (oi :: rest) a w := by
  subst ha
  refine wpList_plain hg fun K hK => ?_
  unfold Oper.wp
  rw [hrun]
  subst hd
  exact hK _ _ h
theorem stepS {oi : Oper} {a : Act} {w w1 : World} (hd : oi.dst = none) (hg : oi.guard = none) (hrun : (execOp a.eval oi).run P w = .ok .skip w1) (h : wpList P ops Q rest a w1) : wpList P ops Q (oi :: rest) a w := by
  refine wpList_plain hg fun K hK => ?_
  unfold Oper.wp
  rw [hrun]
  refine hK _ _ ?_
  rw [hd]
  exact h
theorem exec_fn {oi : Oper} {a : Act} {w : World} {f : Nat} {t : Tmp} (x : Value) (hop : oi.op = .makeFunc (.func f) #[.tmp t] #[]) (he : a.eval (.tmp t) = x) : (execOp a.eval oi).run P w = .ok (.value (.func (.func f) #[x] #[])) w := by
  subst he
  unfold execOp
  simp [hop, Instr.makeFunc]
theorem exec_ins {oi : Oper} {a : Act} {w w1 : World} {t : TypeId} {m k v : Operand} (hop : oi.op = .insert t m k v) (hrun : Sem.run P (Instr.mapUpdate t (a.eval m) (a.eval k) (a.eval v)) w = .ok () w1) : (execOp a.eval oi).run P w = .ok .skip w1 := by
  unfold execOp
  simp [hop, hrun, Result.andThen]
theorem exec_mk {oi : Oper} {a : Act} {w w1 : World} {v : Value} {t : TypeId} (hop : oi.op = .makeMap t none) (hrun : Sem.run P (Instr.makeMap t none) w = .ok v w1) : (execOp a.eval oi).run P w = .ok (.value v) w1 := by
  unfold execOp
  simp [hop, hrun, Result.andThen]
theorem exec_move {P : Program} {oi : Oper} {a : Act} {w : World} {x : Operand} (v : Value) (hop : oi.op = .move x) (he : a.eval x = v) : (execOp a.eval oi).run P w = .ok (.value v) w := by
  subst he
  unfold execOp
  simp [hop]
theorem exec_assign {P : Program} {oi : Oper} {a : Act} {w : World} {x : Operand} (v : Value) (hop : oi.op = .assign x) (he : a.eval x = v) : (execOp a.eval oi).run P w = .ok (.value v) w := by
  subst he
  unfold execOp
  simp [hop]
end
section
variable {P : Program}
theorem exec_build {oi : Oper} {a : Act} {w : World} {v : Value} {t : TypeId} {i j k : Operand} (hop : oi.op = .build t #[(0, i), (1, j), (2, k)]) (hrun : Sem.run P (Instr.build t #[(0, a.eval i), (1, a.eval j), (2, a.eval k)]) w = .ok v w) : (execOp a.eval oi).run P w = .ok (.value v) w := by
  unfold execOp
  simp [hop, hrun, Result.andThen]
end
def ARG.v (x : ARG) : Array Value := #[.int .u64 x.d, .int .u64 x.n, .int .u64 x.m, .int .u64 x.a]
theorem under_inst : Tryz.prog.underlying 51 = some (.struct (match Tryz.prog.underlying 51 with | some (.struct fs) => fs | _ => #[])) := by kernel_rfl
theorem info_inst : (Tryz.prog.info? 51).map (·.size) = some 10 := by kernel_rfl
theorem under_args : Tryz.prog.underlying 287 = some (.struct (match Tryz.prog.underlying 287 with | some (.struct fs) => fs | _ => #[])) := by kernel_rfl
theorem info_args : (Tryz.prog.info? 287).map (·.size) = some 4 := by kernel_rfl
theorem row_range {w : World} {g : Nat} {t : TypeId} {cs : Array Value} (h : w.heap[g]? = some (.cells cs t (0, 0))) : w.rangeAt g 0 cs.toList := range_blk h 0 _ fun j v hj => by rw [Nat.zero_add, ← Array.getElem?_toList]; exact hj
theorem four_new (w : World) (o1 o2 o3 o4 : Obj) : ∃ W, W = (((w.alloc o1).alloc o2).alloc o3).alloc o4 ∧ W.heap[w.heap.size]? = some o1 ∧ W.heap[w.heap.size + 1]? = some o2 ∧ W.heap[w.heap.size + 1 + 1]? = some o3 ∧ W.heap[w.heap.size + 1 + 1 + 1]? = some o4 ∧ Below w.heap.size w W := by
  obtain ⟨h1, h2, h3, h4, h5⟩ := al4 w o1 o2 o3 o4
  exact ⟨_, rfl, h1, h2, h3, h4, below_alloc (below_alloc (below_alloc (below_alloc (Below.refl _ _) _) _) _) _⟩
theorem build_wk (W : World) (i : INS) (x : ARG) (f : FL) : Sem.run Tryz.prog (Instr.build 325 #[(0, .agg i.v), (1, .agg x.v), (2, .agg f.a)]) W = .ok (.agg (wkA i x f)) W := by kernel_rfl
theorem alloc_wk (W : World) : Sem.run Tryz.prog (Instr.alloc 325 true (.tuple #[])) W = .ok (.pointer (some ⟨W.heap.size, 0, none⟩)) (W.alloc (.cells (wkA ⟨0, 0, 0, 0, 0, 0, 0, 0, 0, 0⟩ ⟨0, 0, 0, 0⟩ ⟨false, false, false, false⟩) 325)) := by
  go_simp
  rfl
theorem wk_one (i : INS) (x : ARG) (f : FL) : (wkA i x f).all (·.oneCell') = true := by simp [wkA, wkL, Value.oneCell']
def aluOps (op : Int) : Prop := op = 1 ∨ op = 2 ∨ op = 3 ∨ op = 4 ∨ op = 5 ∨ op = 6 ∨ op = 7 ∨ op = 8 ∨ op = 9 ∨ op = 10 ∨ op = 11 ∨ op = 12 ∨ op = 13 ∨ op = 14 ∨ op = 15 ∨ op = 16 ∨ op = 17 ∨ op = 18 ∨ op = 19 ∨ op = 20 ∨ op = 21 ∨ op = 39
section
variable {P : Program}
theorem exec_alloc {oi : Oper} {a : Act} {w w1 : World} {v : Value} {t : TypeId} (hop : oi.op = .alloc t) (hrun : Sem.run P (Instr.alloc t true (.tuple #[])) w = .ok v w1) : (execOp a.eval oi).run P w = .ok (.value v) w1 := by
  unfold execOp
  simp [hop, hrun, Result.andThen]
end
theorem ld_int (M j : Nat) (v : Int) (w : World) (h : w.cell? ⟨M, j, none⟩ = some (.int .i64 v)) : Sem.run Tryz.prog (Instr.loadAt 3 (.pointer (some ⟨M, j, none⟩))) w = .ok (.int .i64 v) w := by go_simp
attribute [-go_sem] Instr.loadAt Instr.storeAt in
set_option maxHeartbeats 4000000 in
set_option maxRecDepth 100000 in
theorem do_at (k : Nat) (i : INS) (x : ARG) (f g : FL) (r : Int) (w : World) (his : alu_Is.f k i.o i.d i.n i.m i.a i.im i.ms i.sh i.am i.cd = some true) (hop : aluOps i.o) (hw : WkRet (alu_fn i.o) i x f r g) (hTab : TabW w) :
    Calls Tryz.prog 254 #[.agg i.v, .agg x.v, .agg f.a] w fun e w' => e = .returned (.tuple #[.int .u64 r, .agg g.a, .int .i64 0]) ∧ Below w.heap.size w w' := by
  obtain ⟨W, hW, hI, hX, hF, hR, hB⟩ := four_new w (.cells i.v 51) (.cells x.v 287) (.cells f.a 25) (.cells (FL.a ⟨false, false, false, false⟩) 25)
  have HW := aq hW
  have HI := aq hI
  have HX := aq hX
  have HF := aq hF
  have HR := aq hR
  have HB := aq hB
  have HIS := aq his
  have HOP := aq hop
  have HWK := aq hw
  have HT := aq (fun (W : World) (hb : Below w.heap.size w W) => TabW.below hTab hb)
  clear hW hI hX hF hR hB his hop hw hTab
  go_enter Tryz.func254, Tryz.ntmps254
  go_upto_region 1 with fail
  change Code.wp _ _ _ _ ((((w.alloc (.cells i.v 51)).alloc (.cells x.v 287)).alloc (.cells f.a 25)).alloc (.cells (FL.a ⟨false, false, false, false⟩) 25))
  rw [← HW.out]
  clear HW
  go_upto_region 3 with (first | ((with_reducible refine gate_dst (N := 13) rfl ?_); refine wpList_load_mid rfl 51 (.tmp 3) rfl w.heap.size 0 rfl i.v.toList _ (row_range HI.out) under_inst rfl info_inst ?_) | (go_at_call 306; refine (alu_Is.calls k i.o i.d i.n i.m i.a i.im i.ms i.sh i.am i.cd true _ HIS.out (HT.out _ HB.out)).mono ?_; rintro e w1 ⟨rfl, hb⟩; have HI1 := aq (blk_below HI.out hb); have HX1 := aq (blk_below HX.out hb); have HF1 := aq (blk_below HF.out hb); have HR1 := aq (blk_below HR.out hb); have HB1 := aq (below_step HB.out hb); clear hb HI HX HF HR HB))
  refine wp_region_lit ?_
  refine wpList_load_mid rfl 51 (.tmp 3) rfl w.heap.size 0 rfl i.v.toList _ (row_range HI1.out) under_inst rfl info_inst ?_
  simp only [Act.put, List.setIfInBounds_toArray, List.set_cons_zero, List.set_cons_succ]
  refine wpList_load_mid rfl 287 (.tmp 4) rfl (w.heap.size + 1) 0 rfl x.v.toList _ (row_range HX1.out) under_args rfl info_args ?_
  simp only [Act.put, List.setIfInBounds_toArray, List.set_cons_zero, List.set_cons_succ]
  refine wpList_load_mid rfl 25 (.tmp 5) rfl (w.heap.size + 1 + 1) 0 rfl f.l _ (row_range HF1.out) under_fl rfl info_fl ?_
  simp only [Act.put, List.setIfInBounds_toArray, List.set_cons_zero, List.set_cons_succ]
  refine stepV (some 20) rfl rfl (exec_build rfl (build_wk w1 i x f)) (by simp only [qa_, qb_, qc_, qd_]; rfl) ?_
  refine stepV (some 9) rfl rfl (exec_alloc rfl (alloc_wk w1)) (by simp only [qa_, qb_, qc_, qd_]; rfl) ?_
  refine stepS rfl rfl (exec_store rfl (run_storeAt_new w1 325 _ (wkA i x f) info_wk rfl (wk_one i x f))) ?_
  refine wpList_nil ?_
  go_upto_region 4 with fail
  have HI2 := aq (blk_alloc HI1.out (.cells (wkA i x f) 325))
  have HR2 := aq (blk_alloc HR1.out (.cells (wkA i x f) 325))
  have HB2 := aq (below_alloc HB1.out (.cells (wkA i x f) 325))
  have hK2 : Wk (w1.alloc (.cells (wkA i x f) 325)) w1.heap.size i x f := blk_new w1 _
  have hsW : w1.heap.size + 1 = (w1.alloc (.cells (wkA i x f) 325)).heap.size := by show _ = (w1.heap.push _).size; rw [Array.size_push]
  clear HI1 HX1 HF1 HR1 HB1
  generalize w1.alloc (.cells (wkA i x f) 325) = W0 at *
  have HK2 := aq hK2
  clear hK2
  refine wp_region_lit ?_
  simp only [List.append_eq, List.cons_append, List.nil_append]
  have hld : ∀ j, Sem.run Tryz.prog (Instr.loadAt 325 (.pointer (some ⟨w1.heap.size, 0, none⟩))) (mW W0 (.agg (wkA i x f)) j) = .ok (.agg (wkA i x f)) (mW W0 (.agg (wkA i x f)) j) := fun j => Wk.load (show Wk (mW W0 (.agg (wkA i x f)) j) w1.heap.size i x f from (mW_block W0 _ j _ (by omega)).trans HK2.out)
  have hlk2 := mW_look W0 (.agg (wkA i x f)) _ hsW i.o _ (alu_key HOP.out)
  have hent := fun W' => alu_enters HOP.out (.agg (wkA i x f)) W'
  have HCALL := aq (show ∀ W, TabW W → Calls Tryz.prog (alu_fn i.o) #[.agg (wkA i x f)] W _ from HWK.out)
  generalize Value.agg (wkA i x f) = X at *
  refine stepV (some 21) rfl rfl (exec_mk rfl (mW_make W0 X _ hsW)) (by simp only [qa_, qb_, qc_, qd_]; rfl) ?_
  refine stepV (some 22) rfl rfl (exec_load rfl (hld 0)) (by simp only [qa_, qb_, qc_, qd_]; rfl) ?_
  refine stepV (some 23) rfl rfl (exec_fn X rfl rfl) (by simp only [qa_, qb_, qc_, qd_]; rfl) ?_
  refine stepS rfl rfl (exec_ins rfl (mW_put W0 X _ 0 1 307 hsW (by rfl) (by rfl))) ?_
  refine stepV (some 24) rfl rfl (exec_load rfl (hld 1)) (by simp only [qa_, qb_, qc_, qd_]; rfl) ?_
  refine stepV (some 25) rfl rfl (exec_fn X rfl rfl) (by simp only [qa_, qb_, qc_, qd_]; rfl) ?_
  refine stepS rfl rfl (exec_ins rfl (mW_put W0 X _ 1 2 308 hsW (by rfl) (by rfl))) ?_
  refine stepV (some 26) rfl rfl (exec_load rfl (hld 2)) (by simp only [qa_, qb_, qc_, qd_]; rfl) ?_
  refine stepV (some 27) rfl rfl (exec_fn X rfl rfl) (by simp only [qa_, qb_, qc_, qd_]; rfl) ?_
  refine stepS rfl rfl (exec_ins rfl (mW_put W0 X _ 2 3 309 hsW (by rfl) (by rfl))) ?_
  refine stepV (some 28) rfl rfl (exec_load rfl (hld 3)) (by simp only [qa_, qb_, qc_, qd_]; rfl) ?_
  refine stepV (some 29) rfl rfl (exec_fn X rfl rfl) (by simp only [qa_, qb_, qc_, qd_]; rfl) ?_
  refine stepS rfl rfl (exec_ins rfl (mW_put W0 X _ 3 4 310 hsW (by rfl) (by rfl))) ?_
  refine stepV (some 30) rfl rfl (exec_load rfl (hld 4)) (by simp only [qa_, qb_, qc_, qd_]; rfl) ?_
  refine stepV (some 31) rfl rfl (exec_fn X rfl rfl) (by simp only [qa_, qb_, qc_, qd_]; rfl) ?_
  refine stepS rfl rfl (exec_ins rfl (mW_put W0 X _ 4 5 311 hsW (by rfl) (by rfl))) ?_
  refine stepV (some 32) rfl rfl (exec_load rfl (hld 5)) (by simp only [qa_, qb_, qc_, qd_]; rfl) ?_
  refine stepV (some 33) rfl rfl (exec_fn X rfl rfl) (by simp only [qa_, qb_, qc_, qd_]; rfl) ?_
  refine stepS rfl rfl (exec_ins rfl (mW_put W0 X _ 5 6 312 hsW (by rfl) (by rfl))) ?_
  refine stepV (some 34) rfl rfl (exec_load rfl (hld 6)) (by simp only [qa_, qb_, qc_, qd_]; rfl) ?_
  refine stepV (some 35) rfl rfl (exec_fn X rfl rfl) (by simp only [qa_, qb_, qc_, qd_]; rfl) ?_
  refine stepS rfl rfl (exec_ins rfl (mW_put W0 X _ 6 7 313 hsW (by rfl) (by rfl))) ?_
  refine stepV (some 36) rfl rfl (exec_load rfl (hld 7)) (by simp only [qa_, qb_, qc_, qd_]; rfl) ?_
  refine stepV (some 37) rfl rfl (exec_fn X rfl rfl) (by simp only [qa_, qb_, qc_, qd_]; rfl) ?_
  refine stepS rfl rfl (exec_ins rfl (mW_put W0 X _ 7 8 314 hsW (by rfl) (by rfl))) ?_
  refine stepV (some 38) rfl rfl (exec_load rfl (hld 8)) (by simp only [qa_, qb_, qc_, qd_]; rfl) ?_
  refine stepV (some 39) rfl rfl (exec_fn X rfl rfl) (by simp only [qa_, qb_, qc_, qd_]; rfl) ?_
  refine stepS rfl rfl (exec_ins rfl (mW_put W0 X _ 8 9 315 hsW (by rfl) (by rfl))) ?_
  refine stepV (some 40) rfl rfl (exec_load rfl (hld 9)) (by simp only [qa_, qb_, qc_, qd_]; rfl) ?_
  refine stepV (some 41) rfl rfl (exec_fn X rfl rfl) (by simp only [qa_, qb_, qc_, qd_]; rfl) ?_
  refine stepS rfl rfl (exec_ins rfl (mW_put W0 X _ 9 10 316 hsW (by rfl) (by rfl))) ?_
  refine stepV (some 42) rfl rfl (exec_load rfl (hld 10)) (by simp only [qa_, qb_, qc_, qd_]; rfl) ?_
  refine stepV (some 43) rfl rfl (exec_fn X rfl rfl) (by simp only [qa_, qb_, qc_, qd_]; rfl) ?_
  refine stepS rfl rfl (exec_ins rfl (mW_put W0 X _ 10 11 317 hsW (by rfl) (by rfl))) ?_
  refine stepV (some 44) rfl rfl (exec_load rfl (hld 11)) (by simp only [qa_, qb_, qc_, qd_]; rfl) ?_
  refine stepV (some 45) rfl rfl (exec_fn X rfl rfl) (by simp only [qa_, qb_, qc_, qd_]; rfl) ?_
  refine stepS rfl rfl (exec_ins rfl (mW_put W0 X _ 11 12 310 hsW (by rfl) (by rfl))) ?_
  refine stepV (some 46) rfl rfl (exec_load rfl (hld 12)) (by simp only [qa_, qb_, qc_, qd_]; rfl) ?_
  refine stepV (some 47) rfl rfl (exec_fn X rfl rfl) (by simp only [qa_, qb_, qc_, qd_]; rfl) ?_
  refine stepS rfl rfl (exec_ins rfl (mW_put W0 X _ 12 13 311 hsW (by rfl) (by rfl))) ?_
  refine stepV (some 48) rfl rfl (exec_load rfl (hld 13)) (by simp only [qa_, qb_, qc_, qd_]; rfl) ?_
  refine stepV (some 49) rfl rfl (exec_fn X rfl rfl) (by simp only [qa_, qb_, qc_, qd_]; rfl) ?_
  refine stepS rfl rfl (exec_ins rfl (mW_put W0 X _ 13 14 312 hsW (by rfl) (by rfl))) ?_
  refine stepV (some 50) rfl rfl (exec_load rfl (hld 14)) (by simp only [qa_, qb_, qc_, qd_]; rfl) ?_
  refine stepV (some 51) rfl rfl (exec_fn X rfl rfl) (by simp only [qa_, qb_, qc_, qd_]; rfl) ?_
  refine stepS rfl rfl (exec_ins rfl (mW_put W0 X _ 14 15 313 hsW (by rfl) (by rfl))) ?_
  refine stepV (some 52) rfl rfl (exec_load rfl (hld 15)) (by simp only [qa_, qb_, qc_, qd_]; rfl) ?_
  refine stepV (some 53) rfl rfl (exec_fn X rfl rfl) (by simp only [qa_, qb_, qc_, qd_]; rfl) ?_
  refine stepS rfl rfl (exec_ins rfl (mW_put W0 X _ 15 16 314 hsW (by rfl) (by rfl))) ?_
  refine stepV (some 54) rfl rfl (exec_load rfl (hld 16)) (by simp only [qa_, qb_, qc_, qd_]; rfl) ?_
  refine stepV (some 55) rfl rfl (exec_fn X rfl rfl) (by simp only [qa_, qb_, qc_, qd_]; rfl) ?_
  refine stepS rfl rfl (exec_ins rfl (mW_put W0 X _ 16 17 315 hsW (by rfl) (by rfl))) ?_
  refine stepV (some 56) rfl rfl (exec_load rfl (hld 17)) (by simp only [qa_, qb_, qc_, qd_]; rfl) ?_
  refine stepV (some 57) rfl rfl (exec_fn X rfl rfl) (by simp only [qa_, qb_, qc_, qd_]; rfl) ?_
  refine stepS rfl rfl (exec_ins rfl (mW_put W0 X _ 17 18 316 hsW (by rfl) (by rfl))) ?_
  refine stepV (some 58) rfl rfl (exec_load rfl (hld 18)) (by simp only [qa_, qb_, qc_, qd_]; rfl) ?_
  refine stepV (some 59) rfl rfl (exec_fn X rfl rfl) (by simp only [qa_, qb_, qc_, qd_]; rfl) ?_
  refine stepS rfl rfl (exec_ins rfl (mW_put W0 X _ 18 19 317 hsW (by rfl) (by rfl))) ?_
  refine stepV (some 60) rfl rfl (exec_load rfl (hld 19)) (by simp only [qa_, qb_, qc_, qd_]; rfl) ?_
  refine stepV (some 61) rfl rfl (exec_fn X rfl rfl) (by simp only [qa_, qb_, qc_, qd_]; rfl) ?_
  refine stepS rfl rfl (exec_ins rfl (mW_put W0 X _ 19 20 318 hsW (by rfl) (by rfl))) ?_
  refine stepV (some 62) rfl rfl (exec_load rfl (hld 20)) (by simp only [qa_, qb_, qc_, qd_]; rfl) ?_
  refine stepV (some 63) rfl rfl (exec_fn X rfl rfl) (by simp only [qa_, qb_, qc_, qd_]; rfl) ?_
  refine stepS rfl rfl (exec_ins rfl (mW_put W0 X _ 20 21 319 hsW (by rfl) (by rfl))) ?_
  refine stepV (some 64) rfl rfl (exec_load rfl (hld 21)) (by simp only [qa_, qb_, qc_, qd_]; rfl) ?_
  refine stepV (some 65) rfl rfl (exec_fn X rfl rfl) (by simp only [qa_, qb_, qc_, qd_]; rfl) ?_
  refine stepS rfl rfl (exec_ins rfl (mW_put W0 X _ 21 39 320 hsW (by rfl) (by rfl))) ?_
  refine stepV (some 66) rfl rfl (exec_move (.map (some (w1.heap.size + 1))) rfl rfl) (by simp only [qa_, qb_, qc_, qd_]; rfl) ?_
  refine stepV (some 10) rfl rfl (exec_assign (.map (some (w1.heap.size + 1))) rfl rfl) (by simp only [qa_, qb_, qc_, qd_]; rfl) ?_
  refine wpList_nil ?_
  clear hld
  have hlt : w.heap.size < W0.heap.size := blk_lt HI2.out
  have hltR : w.heap.size + 1 + 1 + 1 < W0.heap.size := blk_lt HR2.out
  have hI3 : (mW W0 X 22).heap[w.heap.size]? = some (.cells i.v 51 (0, 0)) := (mW_block W0 X 22 _ hlt).trans HI2.out
  have u0 := ld_int w.heap.size 0 i.o (mW W0 X 22) ((blk_cell hI3 0).trans rfl)
  have HR3 := aq (show Fb (mW W0 X 22) (w.heap.size + 1 + 1 + 1) ⟨false, false, false, false⟩ from (mW_block W0 X 22 _ hltR).trans HR2.out)
  have HB3 := aq (mW_below HB2.out HB2.out.size X 22)
  clear HI2 HR2 HB2 hI3 hlt hltR HK2 hsW
  have HC2 := aq (fun W (hT : TabW W) => HCALL.out W hT)
  clear HCALL
  go_upto_region 6 with (first | ((with_reducible refine (HC2.out _ (HT.out _ HB3.out)).mono ?_); rintro e w3 ⟨rfl, hb⟩; have HR4 := aq (HR3.out.below hb); have HB4 := aq (below_step HB3.out hb); clear hb) | ((with_reducible refine gate_store (t := 25) (p := 12) (v := .tmp 74) rfl ?_); refine wpList_store_mid rfl 25 (.tmp 12) (.tmp 74) rfl w3.heap.size 0 g.a rfl rfl (there_blk (blk_new w3 _) 0 4 (by decide)) info_fl g.one ?_))
  simp only [Act.put]
  have hltR := blk_lt HR4.out
  have hr5 : Fb (((w3.alloc (.cells (FL.a ⟨false, false, false, false⟩) 25)).setCells w3.heap.size 0 g.l)) (w.heap.size + 1 + 1 + 1) ⟨false, false, false, false⟩ := blk_sets_far g.l 0 (Nat.ne_of_lt hltR) (HR4.out.below (below_alloc (Below.refl _ _) _))
  have hg5 : Fb (((w3.alloc (.cells (FL.a ⟨false, false, false, false⟩) 25)).setCells w3.heap.size 0 g.l)) w3.heap.size g := Fb.put (f := ⟨false, false, false, false⟩) (blk_new w3 _)
  have hb5 := below_sets HB4.out.size g.l 0 (below_alloc HB4.out (.cells (FL.a ⟨false, false, false, false⟩) 25))
  have HNE := aq (Nat.ne_of_gt hltR)
  change Code.wp _ _ _ _ ((w3.alloc (.cells (FL.a ⟨false, false, false, false⟩) 25)).setCells w3.heap.size 0 g.l)
  clear HR3 HB3 HR4 HB4 hltR u0 hlk2 hent
  generalize (w3.alloc (.cells (FL.a ⟨false, false, false, false⟩) 25)).setCells w3.heap.size 0 g.l = w4 at *
  generalize w3.heap.size = G at *
  have HK := aq (show Fb w4.drew G g from hg5)
  have hz := show Fb w4.drew (w.heap.size + 1 + 1 + 1) ⟨false, false, false, false⟩ from hr5
  have HB := aq (below_drew1 hb5)
  clear hg5 hr5 hb5
  have hlf := fun (w' : World) (hk : Fb w' G g) => hk.load
  have hst := fun (w' : World) (hk : Fb w' (w.heap.size + 1 + 1 + 1) ⟨false, false, false, false⟩) => hk.store (g := g)
  go_region_held3 (fun w' => Fb w' G g) (with_reducible first | exact HK.out | exact HK.out.far HNE.out _) (fail)
  have F3 := aq (hz.put (g := g))
  have F4 := aq (below_sets (show w.heap.size ≤ w.heap.size + 1 + 1 + 1 by omega) g.l 0 HB.out)
  clear hz hlf hst
  go_wp2
  exact bodyPost_ret (results_list (rs := [.tmp 6, .cell 7 25, .tmp 8]) rfl (by simp) (.tmp (.cell (w.heap.size + 1 + 1 + 1) 25 _ (0, 0) _ rfl F3.out under_fl rfl info_fl (.tmp .nil)))) rfl ⟨rfl, F4.out⟩
def CPU.f (c : CPU) : FL := ⟨c.n, c.z, c.c, c.v⟩
def CPU.setF (c : CPU) (f : FL) : CPU := { c with n := f.n, z := f.z, c := f.c, v := f.v }
def CPU.args (c : CPU) (i : INS) (s : Int) : ARG := ⟨c.reg i.d false, c.reg i.n (s == 2), c.reg i.m false, c.reg i.a false⟩
def Gx (w : World) (G : Nat) (x : ARG) : Prop := w.heap[G]? = some (.cells x.v 287 (0, 0))
theorem Gx.load {w : World} {G : Nat} {x : ARG} (h : Gx w G x) : Sem.run Tryz.prog (Instr.loadAt 287 (.pointer (some ⟨G, 0, none⟩))) w = .ok (.agg x.v) w := run_loadAt_mid w G 0 287 x.v.toList _ (row_range h) under_args rfl info_args
theorem Gx.new (w : World) (x : ARG) : Gx (w.alloc (.cells x.v 287)) w.heap.size x := blk_new w _
theorem Gx.below {w w' : World} {G : Nat} {x : ARG} (h : Gx w G x) (hb : Below w.heap.size w w') : Gx w' G x := blk_below h hb
theorem Mac.rangeI {w : World} {M : Nat} {c : CPU} {mp : Value} {i : INS} {t : Value} (h : Mac w M c mp i t) : w.rangeAt M 38 i.v.toList := range_blk h 38 _ fun j v hj => by
  have hj4 : j < 10 := (List.getElem?_eq_some_iff.1 hj).1
  have : j = 0 ∨ j = 1 ∨ j = 2 ∨ j = 3 ∨ j = 4 ∨ j = 5 ∨ j = 6 ∨ j = 7 ∨ j = 8 ∨ j = 9 := by omega
  rcases this with rfl | rfl | rfl | rfl | rfl | rfl | rfl | rfl | rfl | rfl <;> exact hj
theorem Mac.loadI {w : World} {M : Nat} {c : CPU} {mp : Value} {i : INS} {t : Value} (h : Mac w M c mp i t) : Sem.run Tryz.prog (Instr.loadAt 51 (.pointer (some ⟨M, 38, none⟩))) w = .ok (.agg i.v) w :=
  run_loadAt_mid w M 38 51 i.v.toList _ (range_blk h 38 _ fun j v hj => by
    have hj4 : j < 10 := (List.getElem?_eq_some_iff.1 hj).1
    have : j = 0 ∨ j = 1 ∨ j = 2 ∨ j = 3 ∨ j = 4 ∨ j = 5 ∨ j = 6 ∨ j = 7 ∨ j = 8 ∨ j = 9 := by omega
    rcases this with rfl | rfl | rfl | rfl | rfl | rfl | rfl | rfl | rfl | rfl <;> exact hj) under_inst rfl info_inst
theorem Mac.loadF {w : World} {M : Nat} {c : CPU} {mp : Value} {i : INS} {t : Value} (h : Mac w M c mp i t) : Sem.run Tryz.prog (Instr.loadAt 25 (.pointer (some ⟨M, 33, none⟩))) w = .ok (.agg c.f.a) w :=
  run_loadAt_mid w M 33 25 c.f.l _ (range_blk h 33 _ fun j v hj => by
    have hj4 : j < 4 := (List.getElem?_eq_some_iff.1 hj).1
    have : j = 0 ∨ j = 1 ∨ j = 2 ∨ j = 3 := by omega
    rcases this with rfl | rfl | rfl | rfl <;> exact hj) under_fl rfl info_fl
theorem new_args (W : World) (x : ARG) (d n m a : Int) (hx : x = ⟨d, n, m, a⟩) : Sem.run Tryz.prog (Instr.storeAt 287 (.pointer (some ⟨W.heap.size, 0, none⟩)) (.agg #[.int .u64 d, .int .u64 n, .int .u64 m, .int .u64 a])) (W.alloc (.cells #[.int .u64 0, .int .u64 0, .int .u64 0, .int .u64 0] 287)) = .ok () (W.alloc (.cells x.v 287)) := by
  subst hx
  exact run_storeAt_new W 287 _ _ info_args rfl (by simp [Value.oneCell'])
theorem old_args {w : World} {G : Nat} (h : w.heap[G]? = some (.cells #[.int .u64 0, .int .u64 0, .int .u64 0, .int .u64 0] 287 (0, 0))) (x : ARG) (d n m a : Int) (hx : x = ⟨d, n, m, a⟩) : Sem.run Tryz.prog (Instr.storeAt 287 (.pointer (some ⟨G, 0, none⟩)) (.agg #[.int .u64 d, .int .u64 n, .int .u64 m, .int .u64 a])) w = .ok () (w.setCells G 0 x.v.toList) := by
  subst hx
  exact run_storeAt_mid w G 0 287 _ (there_blk h 0 4 (by decide)) info_args (by simp [Value.oneCell'])
theorem Gx.put {w : World} {G : Nat} (h : w.heap[G]? = some (.cells #[.int .u64 0, .int .u64 0, .int .u64 0, .int .u64 0] 287 (0, 0))) (x : ARG) : Gx (w.setCells G 0 x.v.toList) G x := by
  have := blk_sets x.v.toList 0 h
  have e : sets #[.int .u64 0, .int .u64 0, .int .u64 0, .int .u64 0] 0 x.v.toList = x.v := by simp [sets, ARG.v]
  rwa [e] at this
theorem Mac.far {w : World} {M G : Nat} {c : CPU} {mp : Value} {i : INS} {t : Value} (h : Mac w M c mp i t) (hn : M ≠ G) (vs : List Value) : Mac (w.setCells G 0 vs) M c mp i t := blk_sets_far vs 0 hn h
theorem new_fl (W : World) (g : FL) : Sem.run Tryz.prog (Instr.storeAt 25 (.pointer (some ⟨W.heap.size, 0, none⟩)) (.agg g.a)) (W.alloc (.cells #[.bool false, .bool false, .bool false, .bool false] 25)) = .ok () (W.alloc (.cells g.a 25)) := run_storeAt_new W 25 _ _ info_fl rfl g.one
theorem Mac.setF {w : World} {M : Nat} {c : CPU} {mp : Value} {i : INS} {t : Value} (h : Mac w M c mp i t) (g : FL) : Mac (w.setCells M 33 g.l) M (c.setF g) mp i t := by
  have := blk_sets g.l 33 h
  have e : ST.sets (macA c mp i t) 33 g.l = macA (c.setF g) mp i t := by simp [ST.sets, macA, FL.l, CPU.setF, CPU.l, INS.v]
  rwa [e] at this
theorem only_sets {w0 w : World} {M : Nat} (ho : Only w0 w M) : ∀ (vs : List Value) (o : Nat), Only w0 (w.setCells M o vs) M := by
  intro vs
  induction vs generalizing w with
  | nil => intro o; exact ho
  | cons v vs ih => intro o; exact ih (ho.trans (Only.set _ _ _ _)) (o + 1)
theorem TabW.only {w w' : World} {M : Nat} {c : CPU} {mp : Value} {i : INS} {t : Value} (h : TabW w) (hm : Mac w M c mp i t) (ho : Only w w' M) : TabW w' := by
  have hne : 0 ≠ M := by
    rintro rfl
    have h1 := h.db 0 (by decide)
    rw [hm.cell 0] at h1
    have h2 : (macA c mp i t)[0]? = some (.int .u64 (c.x 0)) := rfl
    rw [h2] at h1
    injection h1 with h1
    injection h1 with h1 _
    cases h1
  exact ⟨fun j hj => (World.cell?_of_block (ho.block 0 (World.block_lt_of_cell? w _ (h.db j hj)) hne)).trans (h.db j hj)⟩
theorem Mac.neF {w : World} {M G : Nat} {c : CPU} {mp : Value} {i : INS} {t : Value} {A : Array Value} (h : Mac w M c mp i t) (hz : w.heap[G]? = some (.cells A 25 (0, 0))) : M ≠ G := blk_ne h hz (by decide)
theorem Gx.neF {w : World} {M G : Nat} {x : ARG} {A : Array Value} (h : Gx w M x) (hz : w.heap[G]? = some (.cells A 25 (0, 0))) : M ≠ G := blk_ne h hz (by decide)
theorem Gx.far {w : World} {M G : Nat} {x : ARG} (h : Gx w M x) (hn : M ≠ G) (vs : List Value) : Gx (w.setCells G 0 vs) M x := blk_sets_far vs 0 hn h
theorem Mac.ne {w : World} {M G : Nat} {c : CPU} {mp : Value} {i : INS} {t : Value} {A : Array Value} (h : Mac w M c mp i t) (hz : w.heap[G]? = some (.cells A 287 (0, 0))) : M ≠ G := blk_ne h hz (by decide)
attribute [-go_sem] Instr.loadAt Instr.storeAt in
set_option maxHeartbeats 4000000 in
set_option maxRecDepth 100000 in
theorem data_at (k : Nat) (c : CPU) (mp : Value) (i : INS) (t : Value) (M : Nat) (w : World) (s r wto : Int) (wr : Bool) (g : FL) (hm : Mac w M c mp i t) (d0 : 0 ≤ i.d) (d1 : i.d ≤ 31) (n0 : 0 ≤ i.n) (n1 : i.n ≤ 31) (m0 : 0 ≤ i.m) (m1 : i.m ≤ 31) (a0 : 0 ≤ i.a) (a1 : i.a ≤ 31)
    (hs : inst_Shape.f i.o = some s) (his : alu_Is.f k i.o i.d i.n i.m i.a i.im i.ms i.sh i.am i.cd = some true) (hop : aluOps i.o) (hw : WkRet (alu_fn i.o) i (c.args i s) c.f r g) (hwr : inst_Writes.f k i.o i.d i.n i.m i.a i.im i.ms i.sh i.am i.cd = some (wto, wr)) (hTab : TabW w) :
    Calls Tryz.prog 167 #[.pointer (some ⟨M, 0, none⟩)] w fun e w' => e = .returned (.int .i64 0) ∧ Only w w' M ∧ Mac w' M ((c.setF g).put i.d (wr && (wto == 31)) r) mp i t := by
  have HM1 := aq (show Mac w.drew M c mp i t from hm)
  have HB1 := aq (below_drew1 (Below.refl w.heap.size w))
  have HS := aq hs
  have HIS := aq his
  have HOP := aq hop
  have HWK := aq hw
  have HWR := aq hwr
  have HT := aq hTab
  have hl1 := fun (w' : World) (h : Mac w' M c mp i t) => load_int M 39 i.d w' ((h.cell 39).trans rfl)
  have hl2 := fun (w' : World) (h : Mac w' M c mp i t) => load_int M 40 i.n w' ((h.cell 40).trans rfl)
  have hl3 := fun (w' : World) (h : Mac w' M c mp i t) => load_int M 41 i.m w' ((h.cell 41).trans rfl)
  have hl4 := fun (w' : World) (h : Mac w' M c mp i t) => load_int M 42 i.a w' ((h.cell 42).trans rfl)
  have hl5 := fun (w' : World) (h : Mac w' M c mp i t) => load_int M 38 i.o w' ((h.cell 38).trans rfl)
  have hst := fun (W : World) => new_args W (c.args i s) _ _ _ _ rfl
  clear hm hs his hop hw hwr hTab
  go_enter Tryz.func167, Tryz.ntmps167
  go_upto_region 1 with fail
  go_cut [3] (fun s3 wx => ∃ G : Nat, s3 = .pointer (some ⟨G, 0, none⟩) ∧ Gx wx G (c.args i s) ∧ Mac wx M c mp i t ∧ Below w.heap.size w wx)
  case first =>
    go_region_held3 (fun w' => Mac w' M c mp i t) (with_reducible first | exact HM1.out | exact Mac.below HM1.out (below_alloc (Below.refl _ _) _) | exact Mac.far HM1.out (Mac.ne HM1.out HZ.out) _) (first | (go_at_call 160; refine (get_at c mp i t M _ _ _ (by assumption) (by assumption) (by assumption)).mono ?_; rintro e w1 ⟨rfl, hb⟩; (first | have HZ := aq (blk_below HZ.out hb) | (have HZ := aq (blk_below (blk_new _ (.cells #[.int .u64 0, .int .u64 0, .int .u64 0, .int .u64 0] 287)) hb); have HZL := aq HB1.out.size) | (have HZ := aq (blk_below (blk_drew (blk_new _ (.cells #[.int .u64 0, .int .u64 0, .int .u64 0, .int .u64 0] 287))) hb); have HZL := aq (Nat.le_refl w.heap.size)) | skip); (try have hst2 := old_args HZ.out (c.args i s) _ _ _ _ rfl); have HM1 := aq (Mac.below (by assumption) hb); have HB1 := aq (below_step (by first | exact HB1.out | exact below_alloc HB1.out _) hb); clear hb) | (go_at_call 30; refine (inst_Shape.calls _ _ _ HS.out).mono ?_; rintro e w1 ⟨rfl, hb⟩; (first | have HZ := aq (blk_below HZ.out hb) | (have HZ := aq (blk_below (blk_new _ (.cells #[.int .u64 0, .int .u64 0, .int .u64 0, .int .u64 0] 287)) hb); have HZL := aq HB1.out.size) | (have HZ := aq (blk_below (blk_drew (blk_new _ (.cells #[.int .u64 0, .int .u64 0, .int .u64 0, .int .u64 0] 287))) hb); have HZL := aq (Nat.le_refl w.heap.size)) | skip); (try have hst2 := old_args HZ.out (c.args i s) _ _ _ _ rfl); have HM1 := aq (Mac.below (by assumption) hb); have HB1 := aq (below_step (by first | exact HB1.out | exact below_alloc HB1.out _) hb); clear hb))
    all_goals
      go_wp2_with fail
      go_meet
      first
      | with_reducible exact ⟨_, rfl, Gx.new _ _, Mac.below HM1.out (below_alloc (Below.refl _ _) _), below_alloc HB1.out _⟩
      | exact ⟨_, rfl, Gx.put HZ.out _, HM1.out.far (Mac.ne HM1.out HZ.out) _, below_sets HZL.out _ _ HB1.out⟩
  case rest =>
    clear HM1 HB1 hl1 hl2 hl3 hl4 hl5 hst HS
    obtain ⟨G, rfl, hg, hm2, hb2⟩ := hcut
    have HM1 := aq (show Mac wc.drew M c mp i t from hm2)
    have HG1 := aq (show Gx wc.drew G (c.args i s) from hg)
    have HB1 := aq (below_drew1 hb2)
    have hl1 := fun (w' : World) (h : Mac w' M c mp i t) => h.loadI
    have hl2 := fun (w' : World) (h : Mac w' M c mp i t) => h.loadF
    have hl3 := fun (w' : World) (h : Gx w' G (c.args i s)) => h.load
    have hst := fun (W : World) => new_fl W g
    clear hg hm2 hb2
    go_upto_region 2 with fail
    go_cut [4, 5, 6] (fun s4 s5 s6 wx => ∃ H : Nat, s4 = .int .u64 r ∧ s5 = .pointer (some ⟨H, 0, none⟩) ∧ s6 = .int .i64 0 ∧ Fb wx H g ∧ Mac wx M c mp i t ∧ Below w.heap.size w wx)
    case first =>
      go_region_held3 (fun w' => Mac w' M c mp i t ∧ Gx w' G (c.args i s)) (with_reducible first | exact ⟨HM1.out, HG1.out⟩ | exact ⟨Mac.below HM1.out (below_alloc (Below.refl _ _) _), Gx.below HG1.out (below_alloc (Below.refl _ _) _)⟩ | exact ⟨Mac.far HM1.out (Mac.neF HM1.out HZ.out) _, Gx.far HG1.out (Gx.neF HG1.out HZ.out) _⟩) ((go_at_call 254; refine (do_at k i (c.args i s) c.f g r _ HIS.out HOP.out HWK.out (HT.out.below (by first | exact HB1.out | exact below_alloc HB1.out _))).mono ?_; rintro e w1 ⟨rfl, hb⟩; (first | (have HZ := aq (blk_below (blk_new _ (.cells (FL.a ⟨false, false, false, false⟩) 25)) hb); have HZL := aq HB1.out.size) | (have HZ := aq (blk_below (blk_drew (blk_new _ (.cells (FL.a ⟨false, false, false, false⟩) 25))) hb); have HZL := aq (show w.heap.size ≤ wc.heap.size from HB1.out.size)) | skip); (try have hst2 := Fb.store (g := g) (show Fb _ _ ⟨false, false, false, false⟩ from HZ.out)); have HG1 := aq (Gx.below (by first | exact HG1.out | exact Gx.below HG1.out (below_alloc (Below.refl _ _) _)) hb); have HM1 := aq (Mac.below (by first | exact HM1.out | exact Mac.below HM1.out (below_alloc (Below.refl _ _) _)) hb); have HB1 := aq (below_step (by first | exact HB1.out | exact below_alloc HB1.out _) hb); clear hb))
      all_goals
        go_wp2_with fail
        go_meet
        first
        | exact ⟨_, rfl, rfl, rfl, blk_new _ _, Mac.below HM1.out (below_alloc (Below.refl _ _) _), below_alloc HB1.out _⟩
        | exact ⟨_, rfl, rfl, rfl, Fb.put HZ.out, Mac.far HM1.out (Mac.neF HM1.out HZ.out) _, below_sets HZL.out _ _ HB1.out⟩
    case rest =>
      obtain ⟨H, rfl, rfl, rfl, hf, hm2, hb2⟩ := hcut
      clear HM1 HG1 HB1 hl1 hl2 hl3 hst
      have HM1 := aq hm2
      have HF := aq hf
      have HB1 := aq hb2
      clear hf hm2 hb2
      go_upto_region 6 with (first | ((with_reducible refine gate_dst (N := 64) rfl ?_); refine wpList_load_mid rfl 25 (.tmp 5) rfl H 0 rfl g.l _ (row_range HF.out) under_fl rfl info_fl ?_) | ((with_reducible refine gate_store (t := 25) (p := 67) (v := .tmp 64) rfl ?_); refine wpList_store_mid rfl 25 (.tmp 67) (.tmp 64) rfl M 33 g.a rfl rfl (there_blk HM1.out 33 4 (by show 37 ≤ 49; decide)) info_fl g.one ?_))
      simp only [Act.put]
      change Code.wp _ _ _ _ (wc.setCells M 33 g.l)
      have HM2 := aq (HM1.out.setF g)
      have HO2 := aq (only_sets (Only.of_below M HB1.out) g.l 33)
      have HT2 := aq (TabW.only (HT.out.below HB1.out) HM1.out (only_sets (Only.of_below M (Below.refl _ _)) g.l 33))
      generalize wc.setCells M 33 g.l = w2 at *
      clear HM1 HB1 HF HT
      go_upto_region 7 with (first | ((with_reducible refine gate_dst (N := 72) rfl ?_); refine wpList_load_mid rfl 51 (.tmp 71) rfl M 38 rfl i.v.toList _ HM2.out.rangeI under_inst rfl info_inst ?_) | (go_at_call 29; refine (inst_Writes.calls k i.o i.d i.n i.m i.a i.im i.ms i.sh i.am i.cd wto wr _ HWR.out HT2.out).mono ?_; rintro e w3 ⟨rfl, hb⟩; have HM3 := aq (HM2.out.below hb); have HO3 := aq (HO2.out.trans (Only.of_below M hb)); clear hb))
      have HP := aq (fun (st : Bool) => put_at (c.setF g) mp i t M r st w3 HM3.out d0 d1)
      cases wr
      all_goals
        go_wp2_with (go_at_call 164; refine (HP.out _).mono ?_; rintro e w4 ⟨rfl, ho, hm⟩; have HM4 := aq hm; have HO4 := aq (HO3.out.trans ho); clear ho hm)
        go_ret
        exact ⟨rfl, HO4.out, HM4.out⟩
end Go.Proofs.YtblnfngigdipcaaGreatDoor.ST
