/- Written for this claim by a program of this session (drive.py, over the print of the kit): Lean functions with the answers of Go functions, and the proofs that the Go code comes to these answers, under no condition but the readings of the arguments that each theorem names. -/
import Derived.Test.YtkpkkjbigndnoaaDoorPx0
import Derived.Test.YtkpkkjbigndnoaaDoorPx6
import Derived.Test.YtkpkkjbigndnoaaDoorPx7
import Derived.Test.YtkpkkjbigndnoaaDoorPx8
import Derived.Test.YtkpkkjbigndnoaaDoorPx9
namespace Go.Proofs.YtkpkkjbigndnoaaDoor.P
open Go.RowKit Go.Proofs.YtkpkkjbigndnoaaDoorW.PrintWords Go.Proofs.YtkpkkjbigndnoaaDoorW.PrintLast Go.Proofs.YtkpkkjbigndnoaaDoorW.PrintMore
attribute [local go_sem] max2_int min2_int max_two min_two max_three min_three max_four min_four   -- for this text's walks alone
set_option linter.unusedVariables false
set_option linter.unusedSimpArgs false

/-! ### code_Encode: function 10 -/
/-- The function that puts it, in memory; T: where a mask's parts are told. -/
def PutV (w : World) (T lo : Nat) : PD → Value → Prop
  | .d, g => g = .func (.func 61) #[] #[]
  | .n, g => g = .func (.func 67) #[] #[]
  | .m, g => g = .func (.func 75) #[] #[]
  | .a, g => g = .func (.func 79) #[] #[]
  | .sh, g => g = .func (.func 77) #[] #[]
  | .cond _, g => g = .func (.func 85) #[] #[]
  | .lo, g => g = .func (.func 81) #[] #[]
  | .hi, g => g = .func (.func 83) #[] #[]
  | .imm _ _ b _, g => ∃ B, lo ≤ B ∧ g = .func (.func 63) #[] #[.pointer (some ⟨B, 0, none⟩)] ∧ w.cell? ⟨B, 0, none⟩ = some (.int .i64 b)
  | .amt _ _ b, g => ∃ B, lo ≤ B ∧ g = .func (.func 65) #[] #[.pointer (some ⟨B, 0, none⟩)] ∧ w.cell? ⟨B, 0, none⟩ = some (.int .i64 b)
  | .mk j, g => j < 3 ∧ ∃ B, lo ≤ B ∧ B ≠ T ∧ g = .func (.func 72) #[] #[.pointer (some ⟨T, 0, none⟩), .pointer (some ⟨B, 0, none⟩)] ∧ w.cell? ⟨B, 0, none⟩ = some (.int .i64 j)
theorem PutV.below {w w' : World} {T lo : Nat} {p : PD} {g : Value} (h : PutV w T lo p g) (hb : Below w.heap.size w w') : PutV w' T lo p g := by
  cases p <;> simp only [PutV] at h ⊢
  all_goals first
    | exact h
    | (obtain ⟨B, hl, e, hc⟩ := h; exact ⟨B, hl, e, pw_cell_below hb hc⟩)
    | (obtain ⟨hj, B, hl, hn, e, hc⟩ := h; exact ⟨hj, B, hl, hn, e, pw_cell_below hb hc⟩)
/-- A field's two functions. -/
structure PF where
  gf : Nat
  gc : Array Value
  pf : Nat
  pc : Array Value
structure PartOk (w : World) (T lo : Nat) (p : PD) (q : PF) : Prop where
  get : GetV w p (.func (.func q.gf) #[] q.gc)
  put : PutV w T lo p (.func (.func q.pf) #[] q.pc)
def PartVal (p : PD) (q : PF) : Value := .agg #[.int .i64 p.at_, .int .i64 p.n_, .func (.func q.gf) #[] q.gc, .func (.func q.pf) #[] q.pc, .bool p.sg_]
theorem PartOk.below {w w' : World} {T lo : Nat} {p : PD} {q : PF} (h : PartOk w T lo p q) (hb : Below w.heap.size w w') : PartOk w' T lo p q := ⟨h.get.below hb, h.put.below hb⟩
/-- A field that stands in a row. -/
structure PartAt (w : World) (T lo R o : Nat) (p : PD) (q : PF) : Prop where
  c0 : w.cell? ⟨R, o, none⟩ = some (.int .i64 p.at_)
  c1 : w.cell? ⟨R, o + 1, none⟩ = some (.int .i64 p.n_)
  c2 : w.cell? ⟨R, o + 2, none⟩ = some (.func (.func q.gf) #[] q.gc)
  c3 : w.cell? ⟨R, o + 3, none⟩ = some (.func (.func q.pf) #[] q.pc)
  c4 : w.cell? ⟨R, o + 4, none⟩ = some (.bool p.sg_)
  ok : PartOk w T lo p q
theorem PartAt.below {w w' : World} {T lo R o : Nat} {p : PD} {q : PF} (h : PartAt w T lo R o p q) (hb : Below w.heap.size w w') : PartAt w' T lo R o p q :=
  ⟨pw_cell_below hb h.c0, pw_cell_below hb h.c1, pw_cell_below hb h.c2, pw_cell_below hb h.c3, pw_cell_below hb h.c4, h.ok.below hb⟩
def PartsAt (w : World) (T lo R : Nat) : Nat → List PD → Prop
  | _, [] => True
  | o, p :: ps => (∃ q, PartAt w T lo R o p q) ∧ PartsAt w T lo R (o + 5) ps
theorem PartsAt.below {w w' : World} {T lo R : Nat} (hb : Below w.heap.size w w') : ∀ {ps : List PD} {o : Nat}, PartsAt w T lo R o ps → PartsAt w' T lo R o ps
  | [], _, _ => trivial
  | _ :: _, _, ⟨⟨q, h⟩, hs⟩ => ⟨⟨q, h.below hb⟩, PartsAt.below hb hs⟩
theorem PartsAt.get {w : World} {T lo R : Nat} : ∀ {ps : List PD} {o : Nat} {i : Nat} {p : PD}, PartsAt w T lo R o ps → ps[i]? = some p → ∃ q, PartAt w T lo R (o + 5 * i) p q
  | [], _, i, p, _, h => by simp at h
  | x :: ps, o, 0, p, ⟨hq, _⟩, h => by
    obtain rfl : x = p := by simpa using h
    exact hq
  | x :: ps, o, i + 1, p, ⟨_, hs⟩, h => by
    have := PartsAt.get hs (i := i) (by simpa using h)
    rw [show o + 5 + 5 * i = o + 5 * (i + 1) by omega] at this
    exact this
/-- The five cells of a field, in a row's cells. -/
theorem PartAt.of {w : World} {T lo R o : Nat} {p : PD} {q : PF} {cur : Array Value} {t : TypeId} {fr : Nat × Nat} (hg : w.heap[R]? = some (.cells cur t fr)) (h0 : cur[o]? = some (.int .i64 p.at_)) (h1 : cur[o + 1]? = some (.int .i64 p.n_))
    (h2 : cur[o + 2]? = some (.func (.func q.gf) #[] q.gc)) (h3 : cur[o + 3]? = some (.func (.func q.pf) #[] q.pc)) (h4 : cur[o + 4]? = some (.bool p.sg_)) (hk : PartOk w T lo p q) : PartAt w T lo R o p q := by
  have e : ∀ j, w.cell? ⟨R, j, none⟩ = cur[j]? := fun j => by
    simp [World.cell?, hg]
  exact ⟨(e _).trans h0, (e _).trans h1, (e _).trans h2, (e _).trans h3, (e _).trans h4, hk⟩
theorem made_d (T lo : Nat) (w : World) : Calls Tryd.prog 44 #[] w fun e w' => ∃ q : PF, e = .returned (.agg #[.int .i64 0, .int .i64 5, .func (.func q.gf) #[] q.gc, .func (.func q.pf) #[] q.pc, .bool false]) ∧ PartOk w' T lo .d q ∧ Below w.heap.size w w' := by
  go_enter Tryd.func44, Tryd.ntmps44
  go_wp2
  refine bodyPost_ret (v := .agg #[.int .i64 0, .int .i64 5, .func (.func 60) #[] #[], .func (.func 61) #[] #[], .bool false]) (by simp [results, Tryd.results44, go_sem]) rfl ⟨⟨_, _, _, _⟩, rfl, ⟨rfl, rfl⟩, ?_⟩
  exact below_alloc (Below.refl _ _) _
theorem made_n (T lo : Nat) (w : World) : Calls Tryd.prog 47 #[] w fun e w' => ∃ q : PF, e = .returned (.agg #[.int .i64 5, .int .i64 5, .func (.func q.gf) #[] q.gc, .func (.func q.pf) #[] q.pc, .bool false]) ∧ PartOk w' T lo .n q ∧ Below w.heap.size w w' := by
  go_enter Tryd.func47, Tryd.ntmps47
  go_wp2
  refine bodyPost_ret (v := .agg #[.int .i64 5, .int .i64 5, .func (.func 66) #[] #[], .func (.func 67) #[] #[], .bool false]) (by simp [results, Tryd.results47, go_sem]) rfl ⟨⟨_, _, _, _⟩, rfl, ⟨rfl, rfl⟩, ?_⟩
  exact below_alloc (Below.refl _ _) _
theorem made_m (T lo : Nat) (w : World) : Calls Tryd.prog 49 #[] w fun e w' => ∃ q : PF, e = .returned (.agg #[.int .i64 16, .int .i64 5, .func (.func q.gf) #[] q.gc, .func (.func q.pf) #[] q.pc, .bool false]) ∧ PartOk w' T lo .m q ∧ Below w.heap.size w w' := by
  go_enter Tryd.func49, Tryd.ntmps49
  go_wp2
  refine bodyPost_ret (v := .agg #[.int .i64 16, .int .i64 5, .func (.func 74) #[] #[], .func (.func 75) #[] #[], .bool false]) (by simp [results, Tryd.results49, go_sem]) rfl ⟨⟨_, _, _, _⟩, rfl, ⟨rfl, rfl⟩, ?_⟩
  exact below_alloc (Below.refl _ _) _
theorem made_a (T lo : Nat) (w : World) : Calls Tryd.prog 51 #[] w fun e w' => ∃ q : PF, e = .returned (.agg #[.int .i64 10, .int .i64 5, .func (.func q.gf) #[] q.gc, .func (.func q.pf) #[] q.pc, .bool false]) ∧ PartOk w' T lo .a q ∧ Below w.heap.size w w' := by
  go_enter Tryd.func51, Tryd.ntmps51
  go_wp2
  refine bodyPost_ret (v := .agg #[.int .i64 10, .int .i64 5, .func (.func 78) #[] #[], .func (.func 79) #[] #[], .bool false]) (by simp [results, Tryd.results51, go_sem]) rfl ⟨⟨_, _, _, _⟩, rfl, ⟨rfl, rfl⟩, ?_⟩
  exact below_alloc (Below.refl _ _) _
theorem made_sh (T lo : Nat) (w : World) : Calls Tryd.prog 50 #[] w fun e w' => ∃ q : PF, e = .returned (.agg #[.int .i64 22, .int .i64 2, .func (.func q.gf) #[] q.gc, .func (.func q.pf) #[] q.pc, .bool false]) ∧ PartOk w' T lo .sh q ∧ Below w.heap.size w w' := by
  go_enter Tryd.func50, Tryd.ntmps50
  go_wp2
  refine bodyPost_ret (v := .agg #[.int .i64 22, .int .i64 2, .func (.func 76) #[] #[], .func (.func 77) #[] #[], .bool false]) (by simp [results, Tryd.results50, go_sem]) rfl ⟨⟨_, _, _, _⟩, rfl, ⟨rfl, rfl⟩, ?_⟩
  exact below_alloc (Below.refl _ _) _
theorem made_cond (T lo : Nat) (x : Int) (w : World) : Calls Tryd.prog 53 #[.int .i64 x] w fun e w' => ∃ q : PF, e = .returned (.agg #[.int .i64 x, .int .i64 4, .func (.func q.gf) #[] q.gc, .func (.func q.pf) #[] q.pc, .bool false]) ∧ PartOk w' T lo (.cond x) q ∧ Below w.heap.size w w' := by
  go_enter Tryd.func53, Tryd.ntmps53
  go_wp2
  refine bodyPost_ret (v := .agg #[.int .i64 x, .int .i64 4, .func (.func 84) #[] #[], .func (.func 85) #[] #[], .bool false]) (by simp [results, Tryd.results53, go_sem]) rfl ⟨⟨_, _, _, _⟩, rfl, ⟨rfl, rfl⟩, ?_⟩
  exact below_alloc (Below.refl _ _) _
theorem made_imm (T lo : Nat) (x n b : Int) (s : Bool) (w : World) (hlo : lo ≤ w.heap.size) : Calls Tryd.prog 45 #[.int .i64 x, .int .i64 n, .int .i64 b, .bool s] w fun e w' => ∃ q : PF, e = .returned (.agg #[.int .i64 x, .int .i64 n, .func (.func q.gf) #[] q.gc, .func (.func q.pf) #[] q.pc, .bool s]) ∧ PartOk w' T lo (.imm x n b s) q ∧ Below w.heap.size w w' := by
  go_enter Tryd.func45, Tryd.ntmps45
  go_wp2
  have hc : ((w.alloc (.cells #[.int .i64 b] 3 (0, 0))).alloc (.cells #[.int .i64 x, .int .i64 n, .func (.func 62) #[] #[.pointer (some ⟨w.heap.size, 0, none⟩)], .func (.func 63) #[] #[.pointer (some ⟨w.heap.size, 0, none⟩)], .bool s] 58)).cell? ⟨w.heap.size, 0, none⟩ = some (.int .i64 b) := by simp [go_sem]
  refine bodyPost_ret (v := .agg #[.int .i64 x, .int .i64 n, .func (.func 62) #[] #[.pointer (some ⟨w.heap.size, 0, none⟩)], .func (.func 63) #[] #[.pointer (some ⟨w.heap.size, 0, none⟩)], .bool s]) (by simp [results, Tryd.results45, go_sem]) rfl ⟨⟨_, _, _, _⟩, rfl, ⟨⟨_, rfl, hc⟩, ⟨_, hlo, rfl, hc⟩⟩, ?_⟩
  exact below_alloc (below_alloc (Below.refl _ _) _) _
theorem made_amt (T lo : Nat) (x n b : Int) (w : World) (hlo : lo ≤ w.heap.size) : Calls Tryd.prog 46 #[.int .i64 x, .int .i64 n, .int .i64 b] w fun e w' => ∃ q : PF, e = .returned (.agg #[.int .i64 x, .int .i64 n, .func (.func q.gf) #[] q.gc, .func (.func q.pf) #[] q.pc, .bool false]) ∧ PartOk w' T lo (.amt x n b) q ∧ Below w.heap.size w w' := by
  go_enter Tryd.func46, Tryd.ntmps46
  go_wp2
  have hc : ((w.alloc (.cells #[.int .i64 b] 3 (0, 0))).alloc (.cells #[.int .i64 x, .int .i64 n, .func (.func 64) #[] #[.pointer (some ⟨w.heap.size, 0, none⟩)], .func (.func 65) #[] #[.pointer (some ⟨w.heap.size, 0, none⟩)], .bool false] 58)).cell? ⟨w.heap.size, 0, none⟩ = some (.int .i64 b) := by simp [go_sem]
  refine bodyPost_ret (v := .agg #[.int .i64 x, .int .i64 n, .func (.func 64) #[] #[.pointer (some ⟨w.heap.size, 0, none⟩)], .func (.func 65) #[] #[.pointer (some ⟨w.heap.size, 0, none⟩)], .bool false]) (by simp [results, Tryd.results46, go_sem]) rfl ⟨⟨_, _, _, _⟩, rfl, ⟨⟨_, rfl, hc⟩, ⟨_, hlo, rfl, hc⟩⟩, ?_⟩
  exact below_alloc (below_alloc (Below.refl _ _) _) _
def ToldIs (w : World) (T : Nat) (t0 t1 t2 : Int) : Prop := w.heap[T]? = some (.cells #[.int .i64 t0, .int .i64 t1, .int .i64 t2] 104 (0, 0))
theorem cd_last (w : World) (o : Obj) : (w.alloc o).heap[w.heap.size]? = some o := by
  show (w.heap.push o)[w.heap.size]? = some o
  simp
theorem ToldIs.below {w w' : World} {T : Nat} {t0 t1 t2 : Int} (h : ToldIs w T t0 t1 t2) (hb : Below w.heap.size w w') : ToldIs w' T t0 t1 t2 := (hb.block T (Array.getElem?_eq_some_iff.1 h).1).trans h
theorem take_get_ {α : Type} {a : Array α} {m : Nat} {xs : List α} (h : a.toList.take m = xs) (j : Nat) (hj : j < m) : a[j]? = xs[j]? := by
  subst h
  rw [List.getElem?_take_of_lt hj, Array.getElem?_toList]
theorem made_tell (j : Nat) (w : World) : Calls Tryd.prog 68 #[.int .i64 j] w fun e w' => ∃ B, e = .returned (.func (.func 69) #[] #[.pointer (some ⟨B, 0, none⟩)]) ∧ w'.cell? ⟨B, 0, none⟩ = some (.int .i64 j) ∧ Below w.heap.size w w' := by
  have hmf : ∀ (fn : Fn) (first cap : Array Value) (w : World), (Instr.makeFunc fn first cap).run Tryd.prog w = .ok (.func fn first cap) w := fun _ _ _ _ => rfl
  go_enter Tryd.func68, Tryd.ntmps68
  go_wp2
  go_ret
  exact ⟨w.heap.size, rfl, by simp [go_sem], below_alloc (Below.refl _ _) _⟩
theorem made_put (j T : Nat) (w : World) (hT : T < w.heap.size) : Calls Tryd.prog 71 #[.int .i64 j, .pointer (some ⟨T, 0, none⟩)] w fun e w' => ∃ B, e = .returned (.func (.func 72) #[] #[.pointer (some ⟨T, 0, none⟩), .pointer (some ⟨B, 0, none⟩)]) ∧ w'.cell? ⟨B, 0, none⟩ = some (.int .i64 j) ∧ w.heap.size ≤ B ∧ Below w.heap.size w w' := by
  have hmf : ∀ (fn : Fn) (first cap : Array Value) (w : World), (Instr.makeFunc fn first cap).run Tryd.prog w = .ok (.func fn first cap) w := fun _ _ _ _ => rfl
  go_enter Tryd.func71, Tryd.ntmps71
  go_wp2
  go_ret
  exact ⟨w.heap.size, rfl, by simp [go_sem], Nat.le_refl _, below_alloc (Below.refl _ _) _⟩
def PartCells (p : PD) (q : PF) : List Value := [.int .i64 p.at_, .int .i64 p.n_, .func (.func q.gf) #[] q.gc, .func (.func q.pf) #[] q.pc, .bool p.sg_]
set_option maxHeartbeats 4000000 in
theorem made_masked (lo : Nat) (w : World) (hlo : lo ≤ w.heap.size) : Calls Tryd.prog 48 #[] w fun e w' => ∃ w6 T q0 q1 q2, e = .returned (.slice (some ⟨w6.heap.size, 0, none⟩) 3 3) ∧ w6.alloc (.cells (PartCells (.mk 0) q0 ++ PartCells (.mk 1) q1 ++ PartCells (.mk 2) q2).toArray 58 (0, 0)) = w' ∧
    PartOk w6 T lo (.mk 0) q0 ∧ PartOk w6 T lo (.mk 1) q1 ∧ PartOk w6 T lo (.mk 2) q2 ∧ ToldIs w6 T 0 0 0 ∧ w.heap.size ≤ T ∧ Below w.heap.size w w6 := by
  have hmf : ∀ (fn : Fn) (first cap : Array Value) (w : World), (Instr.makeFunc fn first cap).run Tryd.prog w = .ok (.func fn first cap) w := fun _ _ _ _ => rfl
  go_enter Tryd.func48, Tryd.ntmps48
  go_wp2
  go_ret
  refine ⟨_, w.heap.size, ⟨_, _, _, _⟩, ⟨_, _, _, _⟩, ⟨_, _, _, _⟩, ?r, rfl, ⟨⟨by omega, _, rfl, ?c0⟩, ⟨by omega, _, ?l0, ?n0, rfl, ?d0⟩⟩, ⟨⟨by omega, _, rfl, ?c1⟩, ⟨by omega, _, ?l1, ?n1, rfl, ?d1⟩⟩, ⟨⟨by omega, _, rfl, ?c2⟩, ⟨by omega, _, ?l2, ?n2, rfl, ?d2⟩⟩, ?t, Nat.le_refl _, ?b⟩
  case b => exact below_alloc (below_alloc (below_alloc (below_alloc (below_alloc (below_alloc (below_alloc (Below.refl _ _) _) _) _) _) _) _) _
  case t => exact blk_alloc (blk_alloc (blk_alloc (blk_alloc (blk_alloc (blk_alloc (cd_last w _) _) _) _) _) _) _
  all_goals first | (simp [go_sem]; done) | omega | (simp; omega)
theorem made_page (T lo : Nat) (w : World) : Calls Tryd.prog 52 #[] w fun e w' => ∃ w6 q0 q1, e = .returned (.slice (some ⟨w6.heap.size, 0, none⟩) 2 2) ∧ w6.alloc (.cells (PartCells .lo q0 ++ PartCells .hi q1).toArray 58 (0, 0)) = w' ∧
    PartOk w6 T lo .lo q0 ∧ PartOk w6 T lo .hi q1 ∧ Below w.heap.size w w6 := by
  go_enter Tryd.func52, Tryd.ntmps52
  go_wp2
  go_ret
  refine ⟨_, ⟨_, _, _, _⟩, ⟨_, _, _, _⟩, ?r, rfl, ⟨rfl, rfl⟩, ⟨rfl, rfl⟩, ?b⟩
  case b => exact below_alloc (below_alloc (Below.refl _ _) _) _
  case r => simp
/-- The fields of a shape. -/
def partsOf (s : Int) : List PD := if s = 1 then [.d, .imm 5 16 1 false, .amt 21 2 16] else if s = 2 then [.d, .n, .imm 10 12 1 false, .amt 22 1 12] else if s = 3 then [.mk 0, .mk 1, .mk 2, .d, .n] else if s = 4 then [.d, .n, .m, .amt 10 6 1, .sh] else if s = 5 then [.d, .n, .m, .amt 10 6 1, .sh] else if s = 6 then [.d, .n, .m, .a] else if s = 7 then [.d, .n, .imm 10 12 8 false] else if s = 8 then [.d, .n, .imm 10 12 1 false] else if s = 9 then [.d, .imm 5 19 4 true] else if s = 10 then [.lo, .hi, .d] else if s = 11 then [.imm 0 26 4 true] else if s = 12 then [.cond 0, .imm 5 19 4 true] else if s = 13 then [.n] else if s = 14 then [.imm 5 16 1 false] else if s = 16 then [.d, .n, .m, .cond 12] else []
def flatP : List PD → List PF → List Value
  | p :: ps, q :: qs => PartCells p q ++ flatP ps qs
  | _, _ => []
def Oks (w : World) (T lo : Nat) : List PD → List PF → Prop
  | [], [] => True
  | p :: ps, q :: qs => PartOk w T lo p q ∧ Oks w T lo ps qs
  | _, _ => False
theorem Oks.below {w w' : World} {T lo : Nat} (hb : Below w.heap.size w w') : ∀ {ps : List PD} {qs : List PF}, Oks w T lo ps qs → Oks w' T lo ps qs
  | [], [], _ => trivial
  | _ :: _, _ :: _, ⟨h, hs⟩ => ⟨h.below hb, Oks.below hb hs⟩
theorem PartsAt.of {w : World} {T lo R : Nat} {cur : Array Value} {t : TypeId} {fr : Nat × Nat} (hg : w.heap[R]? = some (.cells cur t fr)) : ∀ {ps : List PD} {qs : List PF} {o : Nat}, Oks w T lo ps qs → (∀ j, j < (flatP ps qs).length → cur[o + j]? = (flatP ps qs)[j]?) → PartsAt w T lo R o ps
  | [], [], _, _, _ => trivial
  | p :: ps, q :: qs, o, ⟨h, hs⟩, hc => by
    have hl : (flatP (p :: ps) (q :: qs)).length = 5 + (flatP ps qs).length := by
      simp only [flatP, PartCells, List.length_append, List.length_cons, List.length_nil]
    refine ⟨⟨q, PartAt.of hg ?_ ?_ ?_ ?_ ?_ h⟩, PartsAt.of hg hs (o := o + 5) fun j hj => ?_⟩
    · exact (hc 0 (by omega)).trans rfl
    · exact (hc 1 (by omega)).trans rfl
    · exact (hc 2 (by omega)).trans rfl
    · exact (hc 3 (by omega)).trans rfl
    · exact (hc 4 (by omega)).trans rfl
    · rw [show o + 5 + j = o + (5 + j) by omega, hc (5 + j) (by omega)]
      simp only [flatP]
      rw [List.getElem?_append_right (by simp [PartCells])]
      simp [PartCells]
set_option maxHeartbeats 2000000 in
theorem parts_1 (T lo : Nat) (w : World) (hlo : lo ≤ w.heap.size) : Calls Tryd.prog 25 #[.int .i64 1] w fun e w' => ∃ w6 qs, e = .returned (.slice (some ⟨w6.heap.size, 0, none⟩) 3 3) ∧ w6.alloc (.cells (flatP [.d, .imm 5 16 1 false, .amt 21 2 16] qs).toArray 58 (0, 0)) = w' ∧ Oks w6 T lo [.d, .imm 5 16 1 false, .amt 21 2 16] qs ∧ Below w.heap.size w w6 := by
  go_enter Tryd.func25, Tryd.ntmps25
  go_wp2_with fail
  refine (made_d T lo _).mono ?_
  rintro e w1 ⟨q1, rfl, k1, b1⟩
  have k1_ := Aside0.mk k1
  have b1_ := Aside0.mk b1
  clear k1 b1
  go_wp2_with fail
  refine (made_imm T lo 5 16 1 false _ (by have := hlo; have := b1_.out.size; omega)).mono ?_
  rintro e w2 ⟨q2, rfl, k2, b2⟩
  have k2_ := Aside0.mk k2
  have b2_ := Aside0.mk b2
  clear k2 b2
  go_wp2_with fail
  refine (made_amt T lo 21 2 16 _ (by have := hlo; have := b1_.out.size; have := b2_.out.size; omega)).mono ?_
  rintro e w3 ⟨q3, rfl, k3, b3⟩
  have k3_ := Aside0.mk k3
  have b3_ := Aside0.mk b3
  clear k3 b3
  go_wp2_with fail
  go_ret
  exact ⟨_, [q1, q2, q3], rfl, rfl, ⟨k1_.out.below (below_step b2_.out b3_.out), k2_.out.below b3_.out, k3_.out, trivial⟩, below_step (below_step b1_.out b2_.out) b3_.out⟩
set_option maxHeartbeats 2000000 in
theorem parts_2 (T lo : Nat) (w : World) (hlo : lo ≤ w.heap.size) : Calls Tryd.prog 25 #[.int .i64 2] w fun e w' => ∃ w6 qs, e = .returned (.slice (some ⟨w6.heap.size, 0, none⟩) 4 4) ∧ w6.alloc (.cells (flatP [.d, .n, .imm 10 12 1 false, .amt 22 1 12] qs).toArray 58 (0, 0)) = w' ∧ Oks w6 T lo [.d, .n, .imm 10 12 1 false, .amt 22 1 12] qs ∧ Below w.heap.size w w6 := by
  go_enter Tryd.func25, Tryd.ntmps25
  go_wp2_with fail
  refine (made_d T lo _).mono ?_
  rintro e w1 ⟨q1, rfl, k1, b1⟩
  have k1_ := Aside0.mk k1
  have b1_ := Aside0.mk b1
  clear k1 b1
  go_wp2_with fail
  refine (made_n T lo _).mono ?_
  rintro e w2 ⟨q2, rfl, k2, b2⟩
  have k2_ := Aside0.mk k2
  have b2_ := Aside0.mk b2
  clear k2 b2
  go_wp2_with fail
  refine (made_imm T lo 10 12 1 false _ (by have := hlo; have := b1_.out.size; have := b2_.out.size; omega)).mono ?_
  rintro e w3 ⟨q3, rfl, k3, b3⟩
  have k3_ := Aside0.mk k3
  have b3_ := Aside0.mk b3
  clear k3 b3
  go_wp2_with fail
  refine (made_amt T lo 22 1 12 _ (by have := hlo; have := b1_.out.size; have := b2_.out.size; have := b3_.out.size; omega)).mono ?_
  rintro e w4 ⟨q4, rfl, k4, b4⟩
  have k4_ := Aside0.mk k4
  have b4_ := Aside0.mk b4
  clear k4 b4
  go_wp2_with fail
  go_ret
  exact ⟨_, [q1, q2, q3, q4], rfl, rfl, ⟨k1_.out.below (below_step (below_step b2_.out b3_.out) b4_.out), k2_.out.below (below_step b3_.out b4_.out), k3_.out.below b4_.out, k4_.out, trivial⟩, below_step (below_step (below_step b1_.out b2_.out) b3_.out) b4_.out⟩
set_option maxHeartbeats 2000000 in
theorem parts_4 (T lo : Nat) (w : World) (hlo : lo ≤ w.heap.size) : Calls Tryd.prog 25 #[.int .i64 4] w fun e w' => ∃ w6 qs, e = .returned (.slice (some ⟨w6.heap.size, 0, none⟩) 5 5) ∧ w6.alloc (.cells (flatP [.d, .n, .m, .amt 10 6 1, .sh] qs).toArray 58 (0, 0)) = w' ∧ Oks w6 T lo [.d, .n, .m, .amt 10 6 1, .sh] qs ∧ Below w.heap.size w w6 := by
  go_enter Tryd.func25, Tryd.ntmps25
  go_wp2_with fail
  refine (made_d T lo _).mono ?_
  rintro e w1 ⟨q1, rfl, k1, b1⟩
  have k1_ := Aside0.mk k1
  have b1_ := Aside0.mk b1
  clear k1 b1
  go_wp2_with fail
  refine (made_n T lo _).mono ?_
  rintro e w2 ⟨q2, rfl, k2, b2⟩
  have k2_ := Aside0.mk k2
  have b2_ := Aside0.mk b2
  clear k2 b2
  go_wp2_with fail
  refine (made_m T lo _).mono ?_
  rintro e w3 ⟨q3, rfl, k3, b3⟩
  have k3_ := Aside0.mk k3
  have b3_ := Aside0.mk b3
  clear k3 b3
  go_wp2_with fail
  refine (made_amt T lo 10 6 1 _ (by have := hlo; have := b1_.out.size; have := b2_.out.size; have := b3_.out.size; omega)).mono ?_
  rintro e w4 ⟨q4, rfl, k4, b4⟩
  have k4_ := Aside0.mk k4
  have b4_ := Aside0.mk b4
  clear k4 b4
  go_wp2_with fail
  refine (made_sh T lo _).mono ?_
  rintro e w5 ⟨q5, rfl, k5, b5⟩
  have k5_ := Aside0.mk k5
  have b5_ := Aside0.mk b5
  clear k5 b5
  go_wp2_with fail
  go_ret
  exact ⟨_, [q1, q2, q3, q4, q5], rfl, rfl, ⟨k1_.out.below (below_step (below_step (below_step b2_.out b3_.out) b4_.out) b5_.out), k2_.out.below (below_step (below_step b3_.out b4_.out) b5_.out), k3_.out.below (below_step b4_.out b5_.out), k4_.out.below b5_.out, k5_.out, trivial⟩, below_step (below_step (below_step (below_step b1_.out b2_.out) b3_.out) b4_.out) b5_.out⟩
set_option maxHeartbeats 2000000 in
theorem parts_5 (T lo : Nat) (w : World) (hlo : lo ≤ w.heap.size) : Calls Tryd.prog 25 #[.int .i64 5] w fun e w' => ∃ w6 qs, e = .returned (.slice (some ⟨w6.heap.size, 0, none⟩) 5 5) ∧ w6.alloc (.cells (flatP [.d, .n, .m, .amt 10 6 1, .sh] qs).toArray 58 (0, 0)) = w' ∧ Oks w6 T lo [.d, .n, .m, .amt 10 6 1, .sh] qs ∧ Below w.heap.size w w6 := by
  go_enter Tryd.func25, Tryd.ntmps25
  go_wp2_with fail
  refine (made_d T lo _).mono ?_
  rintro e w1 ⟨q1, rfl, k1, b1⟩
  have k1_ := Aside0.mk k1
  have b1_ := Aside0.mk b1
  clear k1 b1
  go_wp2_with fail
  refine (made_n T lo _).mono ?_
  rintro e w2 ⟨q2, rfl, k2, b2⟩
  have k2_ := Aside0.mk k2
  have b2_ := Aside0.mk b2
  clear k2 b2
  go_wp2_with fail
  refine (made_m T lo _).mono ?_
  rintro e w3 ⟨q3, rfl, k3, b3⟩
  have k3_ := Aside0.mk k3
  have b3_ := Aside0.mk b3
  clear k3 b3
  go_wp2_with fail
  refine (made_amt T lo 10 6 1 _ (by have := hlo; have := b1_.out.size; have := b2_.out.size; have := b3_.out.size; omega)).mono ?_
  rintro e w4 ⟨q4, rfl, k4, b4⟩
  have k4_ := Aside0.mk k4
  have b4_ := Aside0.mk b4
  clear k4 b4
  go_wp2_with fail
  refine (made_sh T lo _).mono ?_
  rintro e w5 ⟨q5, rfl, k5, b5⟩
  have k5_ := Aside0.mk k5
  have b5_ := Aside0.mk b5
  clear k5 b5
  go_wp2_with fail
  go_ret
  exact ⟨_, [q1, q2, q3, q4, q5], rfl, rfl, ⟨k1_.out.below (below_step (below_step (below_step b2_.out b3_.out) b4_.out) b5_.out), k2_.out.below (below_step (below_step b3_.out b4_.out) b5_.out), k3_.out.below (below_step b4_.out b5_.out), k4_.out.below b5_.out, k5_.out, trivial⟩, below_step (below_step (below_step (below_step b1_.out b2_.out) b3_.out) b4_.out) b5_.out⟩
set_option maxHeartbeats 2000000 in
theorem parts_6 (T lo : Nat) (w : World) (hlo : lo ≤ w.heap.size) : Calls Tryd.prog 25 #[.int .i64 6] w fun e w' => ∃ w6 qs, e = .returned (.slice (some ⟨w6.heap.size, 0, none⟩) 4 4) ∧ w6.alloc (.cells (flatP [.d, .n, .m, .a] qs).toArray 58 (0, 0)) = w' ∧ Oks w6 T lo [.d, .n, .m, .a] qs ∧ Below w.heap.size w w6 := by
  go_enter Tryd.func25, Tryd.ntmps25
  go_wp2_with fail
  refine (made_d T lo _).mono ?_
  rintro e w1 ⟨q1, rfl, k1, b1⟩
  have k1_ := Aside0.mk k1
  have b1_ := Aside0.mk b1
  clear k1 b1
  go_wp2_with fail
  refine (made_n T lo _).mono ?_
  rintro e w2 ⟨q2, rfl, k2, b2⟩
  have k2_ := Aside0.mk k2
  have b2_ := Aside0.mk b2
  clear k2 b2
  go_wp2_with fail
  refine (made_m T lo _).mono ?_
  rintro e w3 ⟨q3, rfl, k3, b3⟩
  have k3_ := Aside0.mk k3
  have b3_ := Aside0.mk b3
  clear k3 b3
  go_wp2_with fail
  refine (made_a T lo _).mono ?_
  rintro e w4 ⟨q4, rfl, k4, b4⟩
  have k4_ := Aside0.mk k4
  have b4_ := Aside0.mk b4
  clear k4 b4
  go_wp2_with fail
  go_ret
  exact ⟨_, [q1, q2, q3, q4], rfl, rfl, ⟨k1_.out.below (below_step (below_step b2_.out b3_.out) b4_.out), k2_.out.below (below_step b3_.out b4_.out), k3_.out.below b4_.out, k4_.out, trivial⟩, below_step (below_step (below_step b1_.out b2_.out) b3_.out) b4_.out⟩
set_option maxHeartbeats 2000000 in
theorem parts_7 (T lo : Nat) (w : World) (hlo : lo ≤ w.heap.size) : Calls Tryd.prog 25 #[.int .i64 7] w fun e w' => ∃ w6 qs, e = .returned (.slice (some ⟨w6.heap.size, 0, none⟩) 3 3) ∧ w6.alloc (.cells (flatP [.d, .n, .imm 10 12 8 false] qs).toArray 58 (0, 0)) = w' ∧ Oks w6 T lo [.d, .n, .imm 10 12 8 false] qs ∧ Below w.heap.size w w6 := by
  go_enter Tryd.func25, Tryd.ntmps25
  go_wp2_with fail
  refine (made_d T lo _).mono ?_
  rintro e w1 ⟨q1, rfl, k1, b1⟩
  have k1_ := Aside0.mk k1
  have b1_ := Aside0.mk b1
  clear k1 b1
  go_wp2_with fail
  refine (made_n T lo _).mono ?_
  rintro e w2 ⟨q2, rfl, k2, b2⟩
  have k2_ := Aside0.mk k2
  have b2_ := Aside0.mk b2
  clear k2 b2
  go_wp2_with fail
  refine (made_imm T lo 10 12 8 false _ (by have := hlo; have := b1_.out.size; have := b2_.out.size; omega)).mono ?_
  rintro e w3 ⟨q3, rfl, k3, b3⟩
  have k3_ := Aside0.mk k3
  have b3_ := Aside0.mk b3
  clear k3 b3
  go_wp2_with fail
  go_ret
  exact ⟨_, [q1, q2, q3], rfl, rfl, ⟨k1_.out.below (below_step b2_.out b3_.out), k2_.out.below b3_.out, k3_.out, trivial⟩, below_step (below_step b1_.out b2_.out) b3_.out⟩
set_option maxHeartbeats 2000000 in
theorem parts_8 (T lo : Nat) (w : World) (hlo : lo ≤ w.heap.size) : Calls Tryd.prog 25 #[.int .i64 8] w fun e w' => ∃ w6 qs, e = .returned (.slice (some ⟨w6.heap.size, 0, none⟩) 3 3) ∧ w6.alloc (.cells (flatP [.d, .n, .imm 10 12 1 false] qs).toArray 58 (0, 0)) = w' ∧ Oks w6 T lo [.d, .n, .imm 10 12 1 false] qs ∧ Below w.heap.size w w6 := by
  go_enter Tryd.func25, Tryd.ntmps25
  go_wp2_with fail
  refine (made_d T lo _).mono ?_
  rintro e w1 ⟨q1, rfl, k1, b1⟩
  have k1_ := Aside0.mk k1
  have b1_ := Aside0.mk b1
  clear k1 b1
  go_wp2_with fail
  refine (made_n T lo _).mono ?_
  rintro e w2 ⟨q2, rfl, k2, b2⟩
  have k2_ := Aside0.mk k2
  have b2_ := Aside0.mk b2
  clear k2 b2
  go_wp2_with fail
  refine (made_imm T lo 10 12 1 false _ (by have := hlo; have := b1_.out.size; have := b2_.out.size; omega)).mono ?_
  rintro e w3 ⟨q3, rfl, k3, b3⟩
  have k3_ := Aside0.mk k3
  have b3_ := Aside0.mk b3
  clear k3 b3
  go_wp2_with fail
  go_ret
  exact ⟨_, [q1, q2, q3], rfl, rfl, ⟨k1_.out.below (below_step b2_.out b3_.out), k2_.out.below b3_.out, k3_.out, trivial⟩, below_step (below_step b1_.out b2_.out) b3_.out⟩
set_option maxHeartbeats 2000000 in
theorem parts_9 (T lo : Nat) (w : World) (hlo : lo ≤ w.heap.size) : Calls Tryd.prog 25 #[.int .i64 9] w fun e w' => ∃ w6 qs, e = .returned (.slice (some ⟨w6.heap.size, 0, none⟩) 2 2) ∧ w6.alloc (.cells (flatP [.d, .imm 5 19 4 true] qs).toArray 58 (0, 0)) = w' ∧ Oks w6 T lo [.d, .imm 5 19 4 true] qs ∧ Below w.heap.size w w6 := by
  go_enter Tryd.func25, Tryd.ntmps25
  go_wp2_with fail
  refine (made_d T lo _).mono ?_
  rintro e w1 ⟨q1, rfl, k1, b1⟩
  have k1_ := Aside0.mk k1
  have b1_ := Aside0.mk b1
  clear k1 b1
  go_wp2_with fail
  refine (made_imm T lo 5 19 4 true _ (by have := hlo; have := b1_.out.size; omega)).mono ?_
  rintro e w2 ⟨q2, rfl, k2, b2⟩
  have k2_ := Aside0.mk k2
  have b2_ := Aside0.mk b2
  clear k2 b2
  go_wp2_with fail
  go_ret
  exact ⟨_, [q1, q2], rfl, rfl, ⟨k1_.out.below b2_.out, k2_.out, trivial⟩, below_step b1_.out b2_.out⟩
set_option maxHeartbeats 2000000 in
theorem parts_11 (T lo : Nat) (w : World) (hlo : lo ≤ w.heap.size) : Calls Tryd.prog 25 #[.int .i64 11] w fun e w' => ∃ w6 qs, e = .returned (.slice (some ⟨w6.heap.size, 0, none⟩) 1 1) ∧ w6.alloc (.cells (flatP [.imm 0 26 4 true] qs).toArray 58 (0, 0)) = w' ∧ Oks w6 T lo [.imm 0 26 4 true] qs ∧ Below w.heap.size w w6 := by
  go_enter Tryd.func25, Tryd.ntmps25
  go_wp2_with fail
  refine (made_imm T lo 0 26 4 true _ (by have := hlo; omega)).mono ?_
  rintro e w1 ⟨q1, rfl, k1, b1⟩
  have k1_ := Aside0.mk k1
  have b1_ := Aside0.mk b1
  clear k1 b1
  go_wp2_with fail
  go_ret
  exact ⟨_, [q1], rfl, rfl, ⟨k1_.out, trivial⟩, b1_.out⟩
set_option maxHeartbeats 2000000 in
theorem parts_12 (T lo : Nat) (w : World) (hlo : lo ≤ w.heap.size) : Calls Tryd.prog 25 #[.int .i64 12] w fun e w' => ∃ w6 qs, e = .returned (.slice (some ⟨w6.heap.size, 0, none⟩) 2 2) ∧ w6.alloc (.cells (flatP [.cond 0, .imm 5 19 4 true] qs).toArray 58 (0, 0)) = w' ∧ Oks w6 T lo [.cond 0, .imm 5 19 4 true] qs ∧ Below w.heap.size w w6 := by
  go_enter Tryd.func25, Tryd.ntmps25
  go_wp2_with fail
  refine (made_cond T lo 0 _).mono ?_
  rintro e w1 ⟨q1, rfl, k1, b1⟩
  have k1_ := Aside0.mk k1
  have b1_ := Aside0.mk b1
  clear k1 b1
  go_wp2_with fail
  refine (made_imm T lo 5 19 4 true _ (by have := hlo; have := b1_.out.size; omega)).mono ?_
  rintro e w2 ⟨q2, rfl, k2, b2⟩
  have k2_ := Aside0.mk k2
  have b2_ := Aside0.mk b2
  clear k2 b2
  go_wp2_with fail
  go_ret
  exact ⟨_, [q1, q2], rfl, rfl, ⟨k1_.out.below b2_.out, k2_.out, trivial⟩, below_step b1_.out b2_.out⟩
set_option maxHeartbeats 2000000 in
theorem parts_13 (T lo : Nat) (w : World) (hlo : lo ≤ w.heap.size) : Calls Tryd.prog 25 #[.int .i64 13] w fun e w' => ∃ w6 qs, e = .returned (.slice (some ⟨w6.heap.size, 0, none⟩) 1 1) ∧ w6.alloc (.cells (flatP [.n] qs).toArray 58 (0, 0)) = w' ∧ Oks w6 T lo [.n] qs ∧ Below w.heap.size w w6 := by
  go_enter Tryd.func25, Tryd.ntmps25
  go_wp2_with fail
  refine (made_n T lo _).mono ?_
  rintro e w1 ⟨q1, rfl, k1, b1⟩
  have k1_ := Aside0.mk k1
  have b1_ := Aside0.mk b1
  clear k1 b1
  go_wp2_with fail
  go_ret
  exact ⟨_, [q1], rfl, rfl, ⟨k1_.out, trivial⟩, b1_.out⟩
set_option maxHeartbeats 2000000 in
theorem parts_14 (T lo : Nat) (w : World) (hlo : lo ≤ w.heap.size) : Calls Tryd.prog 25 #[.int .i64 14] w fun e w' => ∃ w6 qs, e = .returned (.slice (some ⟨w6.heap.size, 0, none⟩) 1 1) ∧ w6.alloc (.cells (flatP [.imm 5 16 1 false] qs).toArray 58 (0, 0)) = w' ∧ Oks w6 T lo [.imm 5 16 1 false] qs ∧ Below w.heap.size w w6 := by
  go_enter Tryd.func25, Tryd.ntmps25
  go_wp2_with fail
  refine (made_imm T lo 5 16 1 false _ (by have := hlo; omega)).mono ?_
  rintro e w1 ⟨q1, rfl, k1, b1⟩
  have k1_ := Aside0.mk k1
  have b1_ := Aside0.mk b1
  clear k1 b1
  go_wp2_with fail
  go_ret
  exact ⟨_, [q1], rfl, rfl, ⟨k1_.out, trivial⟩, b1_.out⟩
set_option maxHeartbeats 2000000 in
theorem parts_16 (T lo : Nat) (w : World) (hlo : lo ≤ w.heap.size) : Calls Tryd.prog 25 #[.int .i64 16] w fun e w' => ∃ w6 qs, e = .returned (.slice (some ⟨w6.heap.size, 0, none⟩) 4 4) ∧ w6.alloc (.cells (flatP [.d, .n, .m, .cond 12] qs).toArray 58 (0, 0)) = w' ∧ Oks w6 T lo [.d, .n, .m, .cond 12] qs ∧ Below w.heap.size w w6 := by
  go_enter Tryd.func25, Tryd.ntmps25
  go_wp2_with fail
  refine (made_d T lo _).mono ?_
  rintro e w1 ⟨q1, rfl, k1, b1⟩
  have k1_ := Aside0.mk k1
  have b1_ := Aside0.mk b1
  clear k1 b1
  go_wp2_with fail
  refine (made_n T lo _).mono ?_
  rintro e w2 ⟨q2, rfl, k2, b2⟩
  have k2_ := Aside0.mk k2
  have b2_ := Aside0.mk b2
  clear k2 b2
  go_wp2_with fail
  refine (made_m T lo _).mono ?_
  rintro e w3 ⟨q3, rfl, k3, b3⟩
  have k3_ := Aside0.mk k3
  have b3_ := Aside0.mk b3
  clear k3 b3
  go_wp2_with fail
  refine (made_cond T lo 12 _).mono ?_
  rintro e w4 ⟨q4, rfl, k4, b4⟩
  have k4_ := Aside0.mk k4
  have b4_ := Aside0.mk b4
  clear k4 b4
  go_wp2_with fail
  go_ret
  exact ⟨_, [q1, q2, q3, q4], rfl, rfl, ⟨k1_.out.below (below_step (below_step b2_.out b3_.out) b4_.out), k2_.out.below (below_step b3_.out b4_.out), k3_.out.below b4_.out, k4_.out, trivial⟩, below_step (below_step (below_step b1_.out b2_.out) b3_.out) b4_.out⟩
theorem parts_none (s : Int) (w : World) (h : partsOf s = []) : Calls Tryd.prog 25 #[.int .i64 s] w fun e w' => e = .returned (.slice none 0 0) ∧ w = w' := by
  have hs : ¬ s = 1 ∧ ¬ s = 2 ∧ ¬ s = 3 ∧ ¬ s = 4 ∧ ¬ s = 5 ∧ ¬ s = 6 ∧ ¬ s = 7 ∧ ¬ s = 8 ∧ ¬ s = 9 ∧ ¬ s = 10 ∧ ¬ s = 11 ∧ ¬ s = 12 ∧ ¬ s = 13 ∧ ¬ s = 14 ∧ ¬ s = 16 := by
    refine ⟨?_, ?_, ?_, ?_, ?_, ?_, ?_, ?_, ?_, ?_, ?_, ?_, ?_, ?_, ?_⟩ <;> (rintro rfl; simp [partsOf] at h)
  obtain ⟨h1, h2, h3, h4, h5, h6, h7, h8, h9, h10, h11, h12, h13, h14, h16⟩ := hs
  have b1 : (s == 1) = false := by simpa using h1
  have b2 : (s == 2) = false := by simpa using h2
  have b3 : (s == 3) = false := by simpa using h3
  have b4 : (s == 4) = false := by simpa using h4
  have b5 : (s == 5) = false := by simpa using h5
  have b6 : (s == 6) = false := by simpa using h6
  have b7 : (s == 7) = false := by simpa using h7
  have b8 : (s == 8) = false := by simpa using h8
  have b9 : (s == 9) = false := by simpa using h9
  have b10 : (s == 10) = false := by simpa using h10
  have b11 : (s == 11) = false := by simpa using h11
  have b12 : (s == 12) = false := by simpa using h12
  have b13 : (s == 13) = false := by simpa using h13
  have b14 : (s == 14) = false := by simpa using h14
  have b16 : (s == 16) = false := by simpa using h16
  clear h
  go_enter Tryd.func25, Tryd.ntmps25
  go_wp2
  go_ret
  exact ⟨rfl, rfl⟩
theorem info_part : (Tryd.prog.info? 58).map (fun i => (i.zero, i.size, i.bytes)) = some (some (.agg #[.int .i64 0, .int .i64 0, .nilFunc, .nilFunc, .bool false]), 5, 40) := by kernel_rfl
theorem cell_new_ (w : World) (c : Array Value) (t : TypeId) (j : Nat) : (w.alloc (.cells c t (0, 0))).cell? ((⟨w.heap.size, 0, none⟩ : Addr).add j) = c[j]? := by
  have h := cd_last w (.cells c t (0, 0))
  cases j with
  | zero => exact blk_cell h 0
  | succ j =>
    have e : ((⟨w.heap.size, 0, none⟩ : Addr).add (j + 1)) = ⟨w.heap.size, j + 1, none⟩ := by simp [Addr.add]
    rw [e]
    exact blk_cell h (j + 1)
theorem own_new_ {w w1 : World} {c : Array Value} {e : TypeId} {size n : Nat} {g : Nat} (hg : w1.heap[g]? = some (.cells c e (0, 0))) (hc : c.size = n * size) (hn : n ≤ maxLen) : w1.ownsRow g e size (.slice (some ⟨g, 0, none⟩) n n) n c.toList :=
  ⟨by simpa using hc, .inr ⟨g, n, c, rfl, Nat.le_refl _, hg, Nat.le_refl _, hn, hc, by rw [List.take_of_length_le (by simp [hc])]⟩⟩
theorem own_some_ {w : World} {base : Nat} {e : TypeId} {size n : Nat} {v : Value} {xs : List Value} (h : w.ownsRow base e size v n xs) (hn : 0 < n) :
    ∃ g cap cur, v = .slice (some ⟨g, 0, none⟩) n cap ∧ base ≤ g ∧ w.heap[g]? = some (.cells cur e (0, 0)) ∧ n ≤ cap ∧ cur.toList.take (n * size) = xs := by
  rcases h.2 with ⟨_, h0⟩ | ⟨g, cap, cur, rfl, h1, h2, h3, _, _, h4⟩
  · omega
  · exact ⟨g, cap, cur, rfl, h1, h2, h3, h4⟩
theorem oneCell_func (f : Fn) (a b : Array Value) : (Value.func f a b).oneCell' = true := rfl
theorem partCells_one (p : PD) (q : PF) : ∀ u ∈ PartCells p q, u.oneCell' = true := by
  intro u hu
  simp only [PartCells, List.mem_cons, List.not_mem_nil, or_false] at hu
  rcases hu with rfl | rfl | rfl | rfl | rfl <;> rfl
theorem partCells_one2 (p : PD) (q : PF) (p' : PD) (q' : PF) : ∀ u ∈ PartCells p q ++ PartCells p' q', u.oneCell' = true := by
  intro u hu
  rcases List.mem_append.1 hu with hu | hu
  · exact partCells_one _ _ u hu
  · exact partCells_one _ _ u hu
theorem flat_len : ∀ (ps : List PD) (qs : List PF), ps.length = qs.length → (flatP ps qs).length = 5 * ps.length
  | [], [], _ => rfl
  | p :: ps, q :: qs, h => by
    have := flat_len ps qs (by simpa using h)
    simp only [flatP, List.length_append, this, List.length_cons, PartCells, List.length_nil]; omega
set_option maxHeartbeats 4000000 in
theorem parts_3 (lo : Nat) (w : World) (hlo : lo ≤ w.heap.size) : Calls Tryd.prog 25 #[.int .i64 3] w fun e w' => ∃ w6 R cap cur qs T, e = .returned (.slice (some ⟨R, 0, none⟩) 5 cap) ∧ w6.heap.size ≤ R ∧ 5 ≤ cap ∧ w'.heap[R]? = some (.cells cur 58 (0, 0)) ∧ cur.toList.take 25 = flatP [.mk 0, .mk 1, .mk 2, .d, .n] qs ∧ Oks w6 T lo [.mk 0, .mk 1, .mk 2, .d, .n] qs ∧ ToldIs w6 T 0 0 0 ∧ w.heap.size ≤ T ∧ Below w.heap.size w w6 ∧ Below w6.heap.size w6 w' := by
  obtain ⟨i0, hi, hz0, hz1, hz2⟩ := info_parts info_part
  have HI := Aside0.mk hi
  have HZ0 := Aside0.mk hz0
  have HZ1 := Aside0.mk hz1
  have HZ2 := Aside0.mk hz2
  clear hi hz0 hz1 hz2
  go_enter Tryd.func25, Tryd.ntmps25
  go_wp2_with fail
  refine (made_masked lo _ hlo).mono ?_
  rintro e wm ⟨w6, T, x0, x1, x2, rfl, hwm, x0_, x1_, x2_, ht, hT, bm⟩
  have hwm_h := Aside0.mk hwm
  clear hwm
  have x0__h := Aside0.mk x0_
  clear x0_
  have x1__h := Aside0.mk x1_
  clear x1_
  have x2__h := Aside0.mk x2_
  clear x2_
  have ht_h := Aside0.mk ht
  clear ht
  have bm_h := Aside0.mk bm
  clear bm
  go_wp2_with fail
  refine (made_d T lo _).mono ?_
  rintro e w1 ⟨q1, rfl, k1, b1⟩
  have k1_ := Aside0.mk k1
  have b1_ := Aside0.mk b1
  clear k1 b1
  go_wp2_with fail
  refine (made_n T lo _).mono ?_
  rintro e w2 ⟨q2, rfl, k2, b2⟩
  have k2_ := Aside0.mk k2
  have b2_ := Aside0.mk b2
  clear k2 b2
  have hR : w2.heap[w6.heap.size]? = some (.cells (PartCells (.mk 0) x0 ++ PartCells (.mk 1) x1 ++ PartCells (.mk 2) x2).toArray 58 (0, 0)) := by
    have h0 : wm.heap[w6.heap.size]? = some (.cells (PartCells (.mk 0) x0 ++ PartCells (.mk 1) x1 ++ PartCells (.mk 2) x2).toArray 58 (0, 0)) := by rw [← hwm_h.out]; exact cd_last w6 _
    exact (((below_step b1_.out b2_.out)).block _ (Array.getElem?_eq_some_iff.1 h0).1).trans h0
  have hown : ∀ o : Obj, (w2.alloc o).ownsRow w6.heap.size 58 5 (.slice (some ⟨w6.heap.size, 0, none⟩) 3 3) 3 (PartCells (.mk 0) x0 ++ PartCells (.mk 1) x1 ++ PartCells (.mk 2) x2) := fun o => own_new_ (w := w6) (blk_alloc hR o) rfl (by decide)
  have hlt0 : w6.heap.size ≤ w2.heap.size := Nat.le_of_lt (Array.getElem?_eq_some_iff.1 hR).1
  have hlt : ∀ o : Obj, w6.heap.size ≤ (w2.alloc o).heap.size := fun o => by simp; omega
  clear hlt0
  have hb6 : Below w6.heap.size w6 w2 := below_step (by rw [← hwm_h.out]; exact below_alloc (Below.refl _ _) _) ((below_step b1_.out b2_.out))
  have HR := Aside0.mk hR
  have HOWN := Aside0.mk hown
  have HLT := Aside0.mk hlt
  have HB6 := Aside0.mk hb6
  clear hR hown hlt hb6
  go_wp2_with (at_builtin; refine wpList_append_own _ rfl (.tmp 19) (.tmp 22) 53 rfl w6.heap.size 58 i0 _ 5 40 Tryd.underlying53 HI.out HZ0.out HZ1.out HZ2.out rfl (by decide) _ 3 (PartCells (.mk 0) x0 ++ PartCells (.mk 1) x1 ++ PartCells (.mk 2) x2) rfl (HOWN.out _) ⟨w2.heap.size, 0, none⟩ 2 2 (PartCells .d q1 ++ PartCells .n q2) rfl rfl ?n1 ?n2 ?n3 ?n4 ?n5 ?_; (case n1 => exact fun j u hu => (cell_new_ _ _ _ j).trans ((List.getElem?_toArray ..).trans hu)); (case n2 => exact partCells_one2 _ _ _ _); (case n3 => unfold maxLen; omega); (case n4 => omega); (case n5 => exact HLT.out _); intro v1 w9 ho hg _; have HO := Aside0.mk ho; have HG := Aside0.mk hg; clear ho hg)
  have HB9 := (below_alloc HB6.out _).grown HG.out (HLT.out _) (own_base (HOWN.out (.cells #[] 0 (0, 0))))
  obtain ⟨R, cap, cur, rfl, ho1⟩ := own_some_ HO.out (by decide)
  go_ret
  exact ⟨w6, R, cap, cur, [x0, x1, x2, q1, q2], T, rfl, ho1.1, ho1.2.2.1, ho1.2.1, ho1.2.2.2, ⟨x0__h.out, x1__h.out, x2__h.out, ⟨k1_.out.get, k1_.out.put⟩, ⟨k2_.out.get, k2_.out.put⟩, trivial⟩, ht_h.out, hT, bm_h.out, HB9⟩
set_option maxHeartbeats 4000000 in
theorem parts_10 (T : Nat) (lo : Nat) (w : World) (hlo : lo ≤ w.heap.size) : Calls Tryd.prog 25 #[.int .i64 10] w fun e w' => ∃ w6 R cap cur qs, e = .returned (.slice (some ⟨R, 0, none⟩) 3 cap) ∧ w6.heap.size ≤ R ∧ 3 ≤ cap ∧ w'.heap[R]? = some (.cells cur 58 (0, 0)) ∧ cur.toList.take 15 = flatP [.lo, .hi, .d] qs ∧ Oks w6 T lo [.lo, .hi, .d] qs ∧ Below w.heap.size w w6 ∧ Below w6.heap.size w6 w' := by
  obtain ⟨i0, hi, hz0, hz1, hz2⟩ := info_parts info_part
  have HI := Aside0.mk hi
  have HZ0 := Aside0.mk hz0
  have HZ1 := Aside0.mk hz1
  have HZ2 := Aside0.mk hz2
  clear hi hz0 hz1 hz2
  go_enter Tryd.func25, Tryd.ntmps25
  go_wp2_with fail
  refine (made_page T lo _).mono ?_
  rintro e wm ⟨w6, x0, x1, rfl, hwm, x0_, x1_, bm⟩
  have hwm_h := Aside0.mk hwm
  clear hwm
  have x0__h := Aside0.mk x0_
  clear x0_
  have x1__h := Aside0.mk x1_
  clear x1_
  have bm_h := Aside0.mk bm
  clear bm
  go_wp2_with fail
  refine (made_d T lo _).mono ?_
  rintro e w1 ⟨q1, rfl, k1, b1⟩
  have k1_ := Aside0.mk k1
  have b1_ := Aside0.mk b1
  clear k1 b1
  have hR : w1.heap[w6.heap.size]? = some (.cells (PartCells (.lo) x0 ++ PartCells (.hi) x1).toArray 58 (0, 0)) := by
    have h0 : wm.heap[w6.heap.size]? = some (.cells (PartCells (.lo) x0 ++ PartCells (.hi) x1).toArray 58 (0, 0)) := by rw [← hwm_h.out]; exact cd_last w6 _
    exact ((b1_.out).block _ (Array.getElem?_eq_some_iff.1 h0).1).trans h0
  have hown : ∀ o : Obj, (w1.alloc o).ownsRow w6.heap.size 58 5 (.slice (some ⟨w6.heap.size, 0, none⟩) 2 2) 2 (PartCells (.lo) x0 ++ PartCells (.hi) x1) := fun o => own_new_ (w := w6) (blk_alloc hR o) rfl (by decide)
  have hlt0 : w6.heap.size ≤ w1.heap.size := Nat.le_of_lt (Array.getElem?_eq_some_iff.1 hR).1
  have hlt : ∀ o : Obj, w6.heap.size ≤ (w1.alloc o).heap.size := fun o => by simp; omega
  clear hlt0
  have hb6 : Below w6.heap.size w6 w1 := below_step (by rw [← hwm_h.out]; exact below_alloc (Below.refl _ _) _) (b1_.out)
  have HR := Aside0.mk hR
  have HOWN := Aside0.mk hown
  have HLT := Aside0.mk hlt
  have HB6 := Aside0.mk hb6
  clear hR hown hlt hb6
  go_wp2_with (at_builtin; refine wpList_append_own _ rfl (.tmp 59) (.tmp 61) 53 rfl w6.heap.size 58 i0 _ 5 40 Tryd.underlying53 HI.out HZ0.out HZ1.out HZ2.out rfl (by decide) _ 2 (PartCells (.lo) x0 ++ PartCells (.hi) x1) rfl (HOWN.out _) ⟨w1.heap.size, 0, none⟩ 1 1 (PartCells .d q1) rfl rfl ?n1 ?n2 ?n3 ?n4 ?n5 ?_; (case n1 => exact fun j u hu => (cell_new_ _ _ _ j).trans ((List.getElem?_toArray ..).trans hu)); (case n2 => exact partCells_one _ _); (case n3 => unfold maxLen; omega); (case n4 => omega); (case n5 => exact HLT.out _); intro v1 w9 ho hg _; have HO := Aside0.mk ho; have HG := Aside0.mk hg; clear ho hg)
  have HB9 := (below_alloc HB6.out _).grown HG.out (HLT.out _) (own_base (HOWN.out (.cells #[] 0 (0, 0))))
  obtain ⟨R, cap, cur, rfl, ho1⟩ := own_some_ HO.out (by decide)
  go_ret
  exact ⟨w6, R, cap, cur, [x0, x1, q1], rfl, ho1.1, ho1.2.2.1, ho1.2.1, ho1.2.2.2, ⟨x0__h.out, x1__h.out, ⟨k1_.out.get, k1_.out.put⟩, trivial⟩, bm_h.out, HB9⟩
def PD.isCap : PD → Bool
  | .imm _ _ _ _ => true | .amt _ _ _ => true | _ => false
structure PartsRes (w w' : World) (lo : Nat) (s : Int) (A : Option Addr) (T R cap : Nat) : Prop where
  row : PartsAt w' T lo R 0 (partsOf s)
  addr : partsOf s ≠ [] → A = some ⟨R, 0, none⟩
  lR : w.heap.size ≤ R
  lT : w.heap.size ≤ T
  ne : T ≠ R
  told : s = 3 → ToldIs w' T 0 0 0
  cap : (partsOf s).length ≤ cap
  below : Below w.heap.size w w'
  far : ∀ p, p ∈ partsOf s → p.isCap = true → w'.heap.size ≤ T
theorem ite_len {c : Prop} [Decidable c] {a b : List PD} (ha : a.length ≤ 5) (hb : b.length ≤ 5) : (if c then a else b).length ≤ 5 := by
  by_cases h : c
  · rw [if_pos h]; exact ha
  · rw [if_neg h]; exact hb
theorem parts_len (s : Int) : (partsOf s).length ≤ 5 := by
  unfold partsOf
  repeat (refine ite_len (by decide) ?_)
  decide
theorem oks_len {w : World} {T lo : Nat} : ∀ {ps : List PD} {qs : List PF}, Oks w T lo ps qs → ps.length = qs.length
  | [], [], _ => rfl
  | _ :: _, _ :: _, ⟨_, hs⟩ => by simp [oks_len hs]
theorem parts_res1 {w w6 : World} {lo n : Nat} {s : Int} {qs : List PF} {T : Nat} (hT : T = w6.heap.size + 1) (hn : (partsOf s).length = n) (h3 : s ≠ 3) (hk : Oks w6 T lo (partsOf s) qs) (hb : Below w.heap.size w w6) :
    PartsRes w (w6.alloc (.cells (flatP (partsOf s) qs).toArray 58 (0, 0))) lo s (some ⟨w6.heap.size, 0, none⟩) T w6.heap.size n where
  row := PartsAt.of (cd_last w6 _) (hk.below (below_alloc (Below.refl _ _) _)) fun j hj => by rw [Nat.zero_add]; exact List.getElem?_toArray ..
  addr := fun _ => rfl
  lR := hb.size
  lT := by have := hb.size; omega
  ne := by omega
  told := fun h => absurd h h3
  cap := by omega
  below := below_alloc hb _
  far := fun _ _ _ => by subst hT; simp
theorem parts_res2 {w w6 w' : World} {lo R cap : Nat} {s : Int} {qs : List PF} {T : Nat} {cur : Array Value} (hTR : T ≠ R) (hT : w.heap.size ≤ T) (ht : s = 3 → ToldIs w6 T 0 0 0) (hR : w6.heap.size ≤ R) (hc : (partsOf s).length ≤ cap) (hg : w'.heap[R]? = some (.cells cur 58 (0, 0)))
    (hcur : cur.toList.take (5 * (partsOf s).length) = flatP (partsOf s) qs) (hk : Oks w6 T lo (partsOf s) qs) (hb : Below w.heap.size w w6) (hb6 : Below w6.heap.size w6 w') (hno : (partsOf s).all (fun p => !p.isCap) = true) : PartsRes w w' lo s (some ⟨R, 0, none⟩) T R cap where
  row := PartsAt.of hg (hk.below hb6) fun j hj => by
    rw [Nat.zero_add]
    exact take_get_ hcur j (by rw [flat_len _ _ (oks_len hk)] at hj; exact hj)
  addr := fun _ => rfl
  lR := Nat.le_trans hb.size hR
  lT := hT
  ne := hTR
  told := fun h => (ht h).below hb6
  cap := hc
  below := below_step hb hb6
  far := fun p hp h => by have := List.all_eq_true.1 hno p hp; rw [h] at this; cases this
theorem code_parts.calls (s : Int) (lo : Nat) (w : World) (hlo : lo ≤ w.heap.size) : Calls Tryd.prog 25 #[.int .i64 s] w fun e w' => ∃ A T R cap, e = .returned (.slice A (partsOf s).length cap) ∧ PartsRes w w' lo s A T R cap := by
  by_cases h3 : s = 3
  · subst h3
    refine (parts_3 lo w hlo).mono ?_
    rintro e w' ⟨w6, R, cap, cur, qs, T, rfl, hR, hc, hg, hcur, hk, ht, hT, hb, hb6⟩
    have hlt : T < w6.heap.size := (Array.getElem?_eq_some_iff.1 ht).1
    exact ⟨_, T, R, cap, rfl, parts_res2 (by omega) hT (fun _ => ht) hR hc hg hcur hk hb hb6 (by decide)⟩
  by_cases h10 : s = 10
  · subst h10
    have hp := fun T => parts_10 T lo w hlo
    refine (parts_10 0 lo w hlo).mono ?_
    rintro e w' ⟨w6, R, cap, cur, qs, rfl, hR, hc, hg, hcur, hk, hb, hb6⟩
    have hk' : Oks w6 (R + 1) lo (partsOf 10) qs := by
      match qs, hk with
      | [_, _, _], ⟨h1, h2, h3, _⟩ => exact ⟨⟨h1.get, h1.put⟩, ⟨h2.get, h2.put⟩, ⟨h3.get, h3.put⟩, trivial⟩
    exact ⟨_, R + 1, R, cap, rfl, parts_res2 (by omega) (by have := hb.size; omega) (fun h => by cases h) hR hc hg hcur hk' hb hb6 (by decide)⟩
  by_cases h1 : s = 1
  · subst h1
    refine (parts_1 0 lo w hlo).mono ?_
    rintro e w' ⟨w6, qs, rfl, rfl, hk, hb⟩
    have hk' : Oks w6 (w6.heap.size + 1) lo (partsOf 1) qs := by
      match qs, hk with
      | [_, _, _], ⟨g0, g1, g2, _⟩ => exact ⟨⟨g0.get, g0.put⟩, ⟨g1.get, g1.put⟩, ⟨g2.get, g2.put⟩, trivial⟩
    exact ⟨_, _, _, _, rfl, parts_res1 rfl rfl (by decide) hk' hb⟩
  by_cases h2 : s = 2
  · subst h2
    refine (parts_2 0 lo w hlo).mono ?_
    rintro e w' ⟨w6, qs, rfl, rfl, hk, hb⟩
    have hk' : Oks w6 (w6.heap.size + 1) lo (partsOf 2) qs := by
      match qs, hk with
      | [_, _, _, _], ⟨g0, g1, g2, g3, _⟩ => exact ⟨⟨g0.get, g0.put⟩, ⟨g1.get, g1.put⟩, ⟨g2.get, g2.put⟩, ⟨g3.get, g3.put⟩, trivial⟩
    exact ⟨_, _, _, _, rfl, parts_res1 rfl rfl (by decide) hk' hb⟩
  by_cases h4 : s = 4
  · subst h4
    refine (parts_4 0 lo w hlo).mono ?_
    rintro e w' ⟨w6, qs, rfl, rfl, hk, hb⟩
    have hk' : Oks w6 (w6.heap.size + 1) lo (partsOf 4) qs := by
      match qs, hk with
      | [_, _, _, _, _], ⟨g0, g1, g2, g3, g4, _⟩ => exact ⟨⟨g0.get, g0.put⟩, ⟨g1.get, g1.put⟩, ⟨g2.get, g2.put⟩, ⟨g3.get, g3.put⟩, ⟨g4.get, g4.put⟩, trivial⟩
    exact ⟨_, _, _, _, rfl, parts_res1 rfl rfl (by decide) hk' hb⟩
  by_cases h5 : s = 5
  · subst h5
    refine (parts_5 0 lo w hlo).mono ?_
    rintro e w' ⟨w6, qs, rfl, rfl, hk, hb⟩
    have hk' : Oks w6 (w6.heap.size + 1) lo (partsOf 5) qs := by
      match qs, hk with
      | [_, _, _, _, _], ⟨g0, g1, g2, g3, g4, _⟩ => exact ⟨⟨g0.get, g0.put⟩, ⟨g1.get, g1.put⟩, ⟨g2.get, g2.put⟩, ⟨g3.get, g3.put⟩, ⟨g4.get, g4.put⟩, trivial⟩
    exact ⟨_, _, _, _, rfl, parts_res1 rfl rfl (by decide) hk' hb⟩
  by_cases h6 : s = 6
  · subst h6
    refine (parts_6 0 lo w hlo).mono ?_
    rintro e w' ⟨w6, qs, rfl, rfl, hk, hb⟩
    have hk' : Oks w6 (w6.heap.size + 1) lo (partsOf 6) qs := by
      match qs, hk with
      | [_, _, _, _], ⟨g0, g1, g2, g3, _⟩ => exact ⟨⟨g0.get, g0.put⟩, ⟨g1.get, g1.put⟩, ⟨g2.get, g2.put⟩, ⟨g3.get, g3.put⟩, trivial⟩
    exact ⟨_, _, _, _, rfl, parts_res1 rfl rfl (by decide) hk' hb⟩
  by_cases h7 : s = 7
  · subst h7
    refine (parts_7 0 lo w hlo).mono ?_
    rintro e w' ⟨w6, qs, rfl, rfl, hk, hb⟩
    have hk' : Oks w6 (w6.heap.size + 1) lo (partsOf 7) qs := by
      match qs, hk with
      | [_, _, _], ⟨g0, g1, g2, _⟩ => exact ⟨⟨g0.get, g0.put⟩, ⟨g1.get, g1.put⟩, ⟨g2.get, g2.put⟩, trivial⟩
    exact ⟨_, _, _, _, rfl, parts_res1 rfl rfl (by decide) hk' hb⟩
  by_cases h8 : s = 8
  · subst h8
    refine (parts_8 0 lo w hlo).mono ?_
    rintro e w' ⟨w6, qs, rfl, rfl, hk, hb⟩
    have hk' : Oks w6 (w6.heap.size + 1) lo (partsOf 8) qs := by
      match qs, hk with
      | [_, _, _], ⟨g0, g1, g2, _⟩ => exact ⟨⟨g0.get, g0.put⟩, ⟨g1.get, g1.put⟩, ⟨g2.get, g2.put⟩, trivial⟩
    exact ⟨_, _, _, _, rfl, parts_res1 rfl rfl (by decide) hk' hb⟩
  by_cases h9 : s = 9
  · subst h9
    refine (parts_9 0 lo w hlo).mono ?_
    rintro e w' ⟨w6, qs, rfl, rfl, hk, hb⟩
    have hk' : Oks w6 (w6.heap.size + 1) lo (partsOf 9) qs := by
      match qs, hk with
      | [_, _], ⟨g0, g1, _⟩ => exact ⟨⟨g0.get, g0.put⟩, ⟨g1.get, g1.put⟩, trivial⟩
    exact ⟨_, _, _, _, rfl, parts_res1 rfl rfl (by decide) hk' hb⟩
  by_cases h11 : s = 11
  · subst h11
    refine (parts_11 0 lo w hlo).mono ?_
    rintro e w' ⟨w6, qs, rfl, rfl, hk, hb⟩
    have hk' : Oks w6 (w6.heap.size + 1) lo (partsOf 11) qs := by
      match qs, hk with
      | [_], ⟨g0, _⟩ => exact ⟨⟨g0.get, g0.put⟩, trivial⟩
    exact ⟨_, _, _, _, rfl, parts_res1 rfl rfl (by decide) hk' hb⟩
  by_cases h12 : s = 12
  · subst h12
    refine (parts_12 0 lo w hlo).mono ?_
    rintro e w' ⟨w6, qs, rfl, rfl, hk, hb⟩
    have hk' : Oks w6 (w6.heap.size + 1) lo (partsOf 12) qs := by
      match qs, hk with
      | [_, _], ⟨g0, g1, _⟩ => exact ⟨⟨g0.get, g0.put⟩, ⟨g1.get, g1.put⟩, trivial⟩
    exact ⟨_, _, _, _, rfl, parts_res1 rfl rfl (by decide) hk' hb⟩
  by_cases h13 : s = 13
  · subst h13
    refine (parts_13 0 lo w hlo).mono ?_
    rintro e w' ⟨w6, qs, rfl, rfl, hk, hb⟩
    have hk' : Oks w6 (w6.heap.size + 1) lo (partsOf 13) qs := by
      match qs, hk with
      | [_], ⟨g0, _⟩ => exact ⟨⟨g0.get, g0.put⟩, trivial⟩
    exact ⟨_, _, _, _, rfl, parts_res1 rfl rfl (by decide) hk' hb⟩
  by_cases h14 : s = 14
  · subst h14
    refine (parts_14 0 lo w hlo).mono ?_
    rintro e w' ⟨w6, qs, rfl, rfl, hk, hb⟩
    have hk' : Oks w6 (w6.heap.size + 1) lo (partsOf 14) qs := by
      match qs, hk with
      | [_], ⟨g0, _⟩ => exact ⟨⟨g0.get, g0.put⟩, trivial⟩
    exact ⟨_, _, _, _, rfl, parts_res1 rfl rfl (by decide) hk' hb⟩
  by_cases h16 : s = 16
  · subst h16
    refine (parts_16 0 lo w hlo).mono ?_
    rintro e w' ⟨w6, qs, rfl, rfl, hk, hb⟩
    have hk' : Oks w6 (w6.heap.size + 1) lo (partsOf 16) qs := by
      match qs, hk with
      | [_, _, _, _], ⟨g0, g1, g2, g3, _⟩ => exact ⟨⟨g0.get, g0.put⟩, ⟨g1.get, g1.put⟩, ⟨g2.get, g2.put⟩, ⟨g3.get, g3.put⟩, trivial⟩
    exact ⟨_, _, _, _, rfl, parts_res1 rfl rfl (by decide) hk' hb⟩
  have hn : partsOf s = [] := by
    unfold partsOf
    rw [if_neg h1, if_neg h2, if_neg h3, if_neg h4, if_neg h5, if_neg h6, if_neg h7, if_neg h8, if_neg h9, if_neg h10, if_neg h11, if_neg h12, if_neg h13, if_neg h14, if_neg h16]
  refine (parts_none s w hn).mono ?_
  rintro e w' ⟨rfl, rfl⟩
  refine ⟨none, w.heap.size + 1, w.heap.size, 0, by rw [hn]; rfl, ⟨by rw [hn]; trivial, fun h => absurd hn h, Nat.le_refl _, by omega, by omega, fun h => absurd h h3, by rw [hn]; simp, Below.refl _ _, by rw [hn]; intro p hp; cases hp⟩⟩
/-- The operations' words. -/
def baseL : List Int := [0, 3531603968, 2457862144, 4068474880, 2432696320, 3506438144, 2969567232, 4043309056, 2449473536, 2986344448, 3523215360, 4060086272, 2332033024, 3405774848, 2868903936, 3942645760, 2315255808, 2852126720, 3388997632, 3925868544, 2600468480, 2600501248, 4181721088, 4177526784, 960495616, 956301312, 1476395008, 268435456, 2415919104, 335544320, 2483027968, 1409286144, 3019898880, 3036676096, 3592355840, 3594452992, 3596550144, 3556769793, 3573751839, 2592079872]
def baseA : Array Value := #[.int .u32 0, .int .u32 3531603968, .int .u32 2457862144, .int .u32 4068474880, .int .u32 2432696320, .int .u32 3506438144, .int .u32 2969567232, .int .u32 4043309056, .int .u32 2449473536, .int .u32 2986344448, .int .u32 3523215360, .int .u32 4060086272, .int .u32 2332033024, .int .u32 3405774848, .int .u32 2868903936, .int .u32 3942645760, .int .u32 2315255808, .int .u32 2852126720, .int .u32 3388997632, .int .u32 3925868544, .int .u32 2600468480, .int .u32 2600501248, .int .u32 4181721088, .int .u32 4177526784, .int .u32 960495616, .int .u32 956301312, .int .u32 1476395008, .int .u32 268435456, .int .u32 2415919104, .int .u32 335544320, .int .u32 2483027968, .int .u32 1409286144, .int .u32 3019898880, .int .u32 3036676096, .int .u32 3592355840, .int .u32 3594452992, .int .u32 3596550144, .int .u32 3556769793, .int .u32 3573751839, .int .u32 2592079872]
def baseZ : Array Value := #[.int .u32 0, .int .u32 0, .int .u32 0, .int .u32 0, .int .u32 0, .int .u32 0, .int .u32 0, .int .u32 0, .int .u32 0, .int .u32 0, .int .u32 0, .int .u32 0, .int .u32 0, .int .u32 0, .int .u32 0, .int .u32 0, .int .u32 0, .int .u32 0, .int .u32 0, .int .u32 0, .int .u32 0, .int .u32 0, .int .u32 0, .int .u32 0, .int .u32 0, .int .u32 0, .int .u32 0, .int .u32 0, .int .u32 0, .int .u32 0, .int .u32 0, .int .u32 0, .int .u32 0, .int .u32 0, .int .u32 0, .int .u32 0, .int .u32 0, .int .u32 0, .int .u32 0, .int .u32 0]
theorem baseZ_info : (Tryd.prog.info? 63).map (fun i => (i.zero, i.size)) = some (some (.agg baseZ), 40) := by kernel_rfl
theorem baseA_one : baseA.all (·.oneCell') = true := by decide +kernel
theorem baseA_size : baseA.size = 40 := rfl
theorem baseA_build (W : World) : (Instr.build 63 #[(1, .int .u32 3531603968), (2, .int .u32 2457862144), (3, .int .u32 4068474880), (4, .int .u32 2432696320), (5, .int .u32 3506438144), (6, .int .u32 2969567232), (7, .int .u32 4043309056), (8, .int .u32 2449473536), (9, .int .u32 2986344448), (10, .int .u32 3523215360), (11, .int .u32 4060086272), (12, .int .u32 2332033024), (13, .int .u32 3405774848), (14, .int .u32 2868903936), (15, .int .u32 3942645760), (16, .int .u32 2315255808), (17, .int .u32 2852126720), (18, .int .u32 3388997632), (19, .int .u32 3925868544), (20, .int .u32 2600468480), (21, .int .u32 2600501248), (22, .int .u32 4181721088), (23, .int .u32 4177526784), (24, .int .u32 960495616), (25, .int .u32 956301312), (26, .int .u32 1476395008), (27, .int .u32 268435456), (28, .int .u32 2415919104), (29, .int .u32 335544320), (30, .int .u32 2483027968), (31, .int .u32 1409286144), (32, .int .u32 3019898880), (33, .int .u32 3036676096), (34, .int .u32 3592355840), (35, .int .u32 3594452992), (36, .int .u32 3596550144), (37, .int .u32 3556769793), (38, .int .u32 3573751839), (39, .int .u32 2592079872)]).run Tryd.prog W = .ok (.agg baseA) W := run_build W _ _ _ (by kernel_rfl)
attribute [-go_sem] Instr.build Instr.fill in
set_option maxHeartbeats 12800000 in
set_option maxRecDepth 100000 in
theorem code_bases.calls (w : World) : Calls Tryd.prog 28 #[] w fun e w' => e = .returned (.agg baseA) ∧ Below w.heap.size w w' := by
  obtain ⟨hz, hs⟩ := zero_of_info baseZ_info
  have hst := run_storeCells_new (P := Tryd.prog) w 63 baseZ baseA hs rfl baseA_one
  have hld := run_loadCellsFrom_new (P := Tryd.prog) w 63 baseA 40 rfl
  have hsz := baseA_size
  have hba := baseA_build
  go_enter Tryd.func28, Tryd.ntmps28
  go_wp2
  clear hba
  refine bodyPost_ret (v := .agg baseA) (results_cell_ rfl _ _ rfl (heap_last_ w _) Tryd.underlying63 rfl hs) rfl ⟨rfl, (Below.refl _ _).alloc (Nat.le_refl _) _⟩
theorem base_index : ∀ (i : Nat) (_ : i < 40) (W : World), (Instr.index 63 (.agg baseA) (.int .i64 (i : Int))).run Tryd.prog W = .ok (.int .u32 (baseL.getD i 0)) W
  | 0, _, _ => by kernel_rfl
  | 1, _, _ => by kernel_rfl
  | 2, _, _ => by kernel_rfl
  | 3, _, _ => by kernel_rfl
  | 4, _, _ => by kernel_rfl
  | 5, _, _ => by kernel_rfl
  | 6, _, _ => by kernel_rfl
  | 7, _, _ => by kernel_rfl
  | 8, _, _ => by kernel_rfl
  | 9, _, _ => by kernel_rfl
  | 10, _, _ => by kernel_rfl
  | 11, _, _ => by kernel_rfl
  | 12, _, _ => by kernel_rfl
  | 13, _, _ => by kernel_rfl
  | 14, _, _ => by kernel_rfl
  | 15, _, _ => by kernel_rfl
  | 16, _, _ => by kernel_rfl
  | 17, _, _ => by kernel_rfl
  | 18, _, _ => by kernel_rfl
  | 19, _, _ => by kernel_rfl
  | 20, _, _ => by kernel_rfl
  | 21, _, _ => by kernel_rfl
  | 22, _, _ => by kernel_rfl
  | 23, _, _ => by kernel_rfl
  | 24, _, _ => by kernel_rfl
  | 25, _, _ => by kernel_rfl
  | 26, _, _ => by kernel_rfl
  | 27, _, _ => by kernel_rfl
  | 28, _, _ => by kernel_rfl
  | 29, _, _ => by kernel_rfl
  | 30, _, _ => by kernel_rfl
  | 31, _, _ => by kernel_rfl
  | 32, _, _ => by kernel_rfl
  | 33, _, _ => by kernel_rfl
  | 34, _, _ => by kernel_rfl
  | 35, _, _ => by kernel_rfl
  | 36, _, _ => by kernel_rfl
  | 37, _, _ => by kernel_rfl
  | 38, _, _ => by kernel_rfl
  | 39, _, _ => by kernel_rfl
  | n + 40, h, _ => absurd h (by omega)
/-- The fields' numbers, of an instruction. -/
def fieldsL (k : Nat) (i0 i1 i2 i3 i4 i5 i6 i7 i8 i9 : Int) : List PD → Option (List S60)
  | [] => some []
  | p :: ps => (p.fieldV k i0 i1 i2 i3 i4 i5 i6 i7 i8 i9).bind fun u => (fieldsL k i0 i1 i2 i3 i4 i5 i6 i7 i8 i9 ps).bind fun l => some (⟨p.at_, p.n_, u⟩ :: l)
def code_Encode.f (k : Nat) (i0 i1 i2 i3 i4 i5 i6 i7 i8 i9 : Int) : Option (Int × Int) := (inst_Is.f k i0 i1 i2 i3 i4 i5 i6 i7 i8 i9).bind fun b => if b = true then (inst_Shape.f i0).bind fun s => (fieldsL k i0 i1 i2 i3 i4 i5 i6 i7 i8 i9 (partsOf s)).bind fun l => (code_over.f k (baseL.getD i0.toNat 0) l).bind fun v => if 0 ≤ i0 ∧ i0 < 40 then some (v, 0) else none else some (0, 1)
theorem PD.get_mono (p : PD) (i0 i1 i2 i3 i4 i5 i6 i7 i8 i9 : Int) (k : Nat) : LeO (p.get k i0 i1 i2 i3 i4 i5 i6 i7 i8 i9) (p.get (k + 1) i0 i1 i2 i3 i4 i5 i6 i7 i8 i9) := by
  cases p <;> simp only [PD.get] <;> first | exact LeO.refl _ | exact LeO.bind (mask_Encode.mono _ _) (fun _ => LeO.refl _)
theorem PD.fieldV_mono (p : PD) (i0 i1 i2 i3 i4 i5 i6 i7 i8 i9 : Int) (k : Nat) : LeO (p.fieldV k i0 i1 i2 i3 i4 i5 i6 i7 i8 i9) (p.fieldV (k + 1) i0 i1 i2 i3 i4 i5 i6 i7 i8 i9) :=
  LeO.bind (PD.get_mono p i0 i1 i2 i3 i4 i5 i6 i7 i8 i9 k) (fun v => LeO.ite (LeO.bind (bits_Pack.mono _ _ _) (fun _ => LeO.refl _)) (LeO.refl _))
theorem fieldsL_mono (i0 i1 i2 i3 i4 i5 i6 i7 i8 i9 : Int) (k : Nat) : ∀ ps : List PD, LeO (fieldsL k i0 i1 i2 i3 i4 i5 i6 i7 i8 i9 ps) (fieldsL (k + 1) i0 i1 i2 i3 i4 i5 i6 i7 i8 i9 ps)
  | [] => LeO.refl _
  | p :: ps => LeO.bind (PD.fieldV_mono p i0 i1 i2 i3 i4 i5 i6 i7 i8 i9 k) (fun _ => LeO.bind (fieldsL_mono i0 i1 i2 i3 i4 i5 i6 i7 i8 i9 k ps) (fun _ => LeO.refl _))
theorem code_Encode.mono : ∀ i0 i1 i2 i3 i4 i5 i6 i7 i8 i9 k, LeO (code_Encode.f k i0 i1 i2 i3 i4 i5 i6 i7 i8 i9) (code_Encode.f (k + 1) i0 i1 i2 i3 i4 i5 i6 i7 i8 i9) := by
  intro i0 i1 i2 i3 i4 i5 i6 i7 i8 i9 k
  unfold code_Encode.f
  exact LeO.bind (inst_Is.mono i0 i1 i2 i3 i4 i5 i6 i7 i8 i9 k) (fun b => LeO.ite (LeO.bind (LeO.refl _) (fun s => LeO.bind (fieldsL_mono i0 i1 i2 i3 i4 i5 i6 i7 i8 i9 k _) (fun l => LeO.bind (code_over.mono _ _ k) (fun _ => LeO.refl _)))) (LeO.refl _))
theorem info_fld : (Tryd.prog.info? 60).map (fun i => (i.zero, i.size, i.bytes)) = some (some (.agg #[.int .i64 0, .int .i64 0, .int .u32 0]), 3, 24) := by kernel_rfl
theorem getD_nat_ (j : Int) (h0 : 0 ≤ j) (h1 : j < 40) (W : World) : (Instr.index 63 (.agg baseA) (.int .i64 j)).run Tryd.prog W = .ok (.int .u32 (baseL.getD j.toNat 0)) W := by
  obtain ⟨n, rfl⟩ := Int.eq_ofNat_of_zero_le h0
  rw [Int.toNat_natCast]
  exact base_index n (by omega) W
theorem field_cells_ (W0 : World) (p : PD) (u : Int) : k60.K W0 ⟨p.at_, p.n_, u⟩ [.int .i64 p.at_, .int .i64 p.n_, .int .u32 u] := k60_mk W0 _
set_option maxHeartbeats 16000000 in
set_option maxRecDepth 100000 in
theorem code_Encode.calls (k : Nat) (i0 i1 i2 i3 i4 i5 i6 i7 i8 i9 : Int) (r1 r2 : Int) (w : World) (h : code_Encode.f k i0 i1 i2 i3 i4 i5 i6 i7 i8 i9 = some (r1, r2)) (hTab : TabW w := by first | exact hTab | exact TabW.drew hTab | exact TabW.drewN hTab _ | exact TabW.below hTab (by repeat (first | (with_reducible first | exact HB.out | apply below_alloc | apply pw_below_drewN | apply below_drew1) | refine Below.setCell ?_ (Aside0.out (by assumption)) _ | exact HB.out | exact Below.refl _ _))) :
    Calls Tryd.prog 10 #[.agg #[.int .i64 i0, .int .i64 i1, .int .i64 i2, .int .i64 i3, .int .i64 i4, .int .i64 i5, .int .u64 i6, .int .i64 i7, .int .i64 i8, .int .i64 i9]] w fun e w' => e = .returned (.tuple #[.int .u32 r1, .int .i64 r2]) ∧ Below w.heap.size w w' := by
  unfold code_Encode.f at h
  obtain ⟨b, hb, h⟩ := Option.bind_eq_some_iff.mp h
  have HI := Aside0.mk hb
  clear hb
  cases b with
  | false =>
    rw [if_neg (by decide)] at h
    injection h with h
    injection h with h1 h2
    subst h1 h2
    go_enter Tryd.func10, Tryd.ntmps10
    go_wp2_with (go_at_call 11; refine (inst_Is.calls _ _ _ _ _ _ _ _ _ _ _ _ _ HI.out (hTab := TabW.below hTab (below_alloc (Below.refl _ _) _))).mono ?_; rintro e w1 ⟨rfl, hb1⟩; have HB := Aside0.mk (below_step (below_alloc (Below.refl _ _) _) hb1); clear hb1)
    go_ret2
    exact ⟨rfl, HB.out⟩
  | true =>
    rw [if_pos rfl] at h
    obtain ⟨s, hs, h⟩ := Option.bind_eq_some_iff.mp h
    obtain ⟨l, hl, h⟩ := Option.bind_eq_some_iff.mp h
    obtain ⟨v, hv, h⟩ := Option.bind_eq_some_iff.mp h
    by_cases h41 : ¬ (0 ≤ i0 ∧ i0 < 40)
    · rw [if_neg h41] at h; cases h
    have h40 : 0 ≤ i0 ∧ i0 < 40 := by omega
    rw [if_pos h40] at h
    injection h with h
    injection h with h1 h2
    subst h1 h2
    have HS := Aside0.mk hs
    have HL := Aside0.mk hl
    have HV := Aside0.mk hv
    clear hs hl hv
    have hlen := parts_len s
    go_enter Tryd.func10, Tryd.ntmps10
    go_wp2_with (first | (go_at_call 11; refine (inst_Is.calls _ _ _ _ _ _ _ _ _ _ _ _ _ HI.out (hTab := TabW.below hTab (below_alloc (Below.refl _ _) _))).mono ?_; rintro e w1 ⟨rfl, hb1⟩; have hbox := (hb1.block w.heap.size (by simp)).trans (cd_last w _); have HB1 := Aside0.mk (below_step (below_alloc (Below.refl _ _) _) hb1); have HBX := Aside0.mk hbox; have hc0 := (blk_cell hbox 0).trans rfl; clear hb1 hbox) | (go_at_call 18; refine (inst_Shape.calls _ _ _ HS.out).mono ?_; rintro e w2 ⟨rfl, hb2⟩; have HB2 := Aside0.mk (below_step HB1.out hb2); have HBX2 := Aside0.mk ((hb2.block _ (Array.getElem?_eq_some_iff.1 HBX.out).1).trans HBX.out); clear hb2) | (go_at_call 25; refine (code_parts.calls s w.heap.size _ HB2.out.size).mono ?_; rintro e w3 ⟨A, T, R, cap, rfl, hp⟩; have HP := Aside0.mk hp; have HB3 := Aside0.mk (below_step HB2.out hp.below); have HBX3 := Aside0.mk ((hp.below.block _ (Array.getElem?_eq_some_iff.1 HBX2.out).1).trans HBX2.out); clear hp))
    have hHP := HP.out
    obtain ⟨hne, hcap⟩ : (partsOf s ≠ [] → A = some ⟨R, 0, none⟩) ∧ (partsOf s).length ≤ cap := ⟨hHP.addr, hHP.cap⟩
    clear hHP
    generalize hpd : partsOf s = pds at *
    have HN := Aside0.mk hne
    clear hne
    have HCAP := Aside0.mk hcap
    clear hcap
    have HPD := Aside0.mk hpd
    clear hpd
    have HL5 := Aside0.mk hlen
    clear hlen
    have H40 := Aside0.mk h40
    clear h40 h41
    go_loopg [4, 15] pds.length (fun kq v4 v15 wr => ∃ (i : Nat) (xs ys : List S60), v15 = .int .i64 (i : Int) ∧ i + kq = pds.length ∧ Aside0 (fieldsL k i0 i1 i2 i3 i4 i5 i6 i7 i8 i9 (pds.drop i) = some ys) ∧ Aside0 (xs ++ ys = l) ∧ Aside0 (xs.length = i) ∧ Aside0 (Kd.R k60 60 wr w3.heap.size (fun _ => True) v4 xs) ∧ Aside0 (Below w3.heap.size w3 wr))
    case atStart => exact ⟨0, [], l, rfl, by omega, ⟨by rw [List.drop_zero]; exact HL.out⟩, ⟨rfl⟩, ⟨rfl⟩, ⟨Kd.R_nil _ _ _ _ _⟩, ⟨Below.refl _ _⟩⟩
    case round =>
      obtain ⟨i, xs, ys, rfl, hik, HF, HXY, HXL, HR, HW⟩ := hrel
      cases gk with
      | zero =>
        obtain rfl : i = pds.length := by omega
        have hF := HF.out
        rw [List.drop_length] at hF
        injection hF with hF
        subst hF
        have hXY := HXY.out
        rw [List.append_nil] at hXY
        subst hXY
        obtain ⟨Ar, cr, rfl, hlr, hCr⟩ := Kd.R_reads HR.out
        have hbx : wr.heap[w.heap.size]? = _ := (HW.out.block _ (Array.getElem?_eq_some_iff.1 HBX3.out).1).trans HBX3.out
        have hc0 := (blk_cell hbx 0).trans rfl
        have HBW := Aside0.mk (below_step HB3.out HW.out)
        have hz : w.heap.size < wr.heap.size := Nat.lt_of_lt_of_le (Array.getElem?_eq_some_iff.1 HBX3.out).1 HW.out.size
        have hidx := getD_nat_ i0 H40.out.1 H40.out.2
        go_wp2
        go_region_with (first | (go_at_call 28; refine (code_bases.calls _).mono ?_; rintro e w4 ⟨rfl, hb4⟩; have hc4 := pw_cell_below hb4 hc0; have HB4 := Aside0.mk (below_step (show Below wr.heap.size wr _ from by repeat (first | exact Below.refl _ _ | apply pw_below_drewN | apply below_drew1 | apply below_drew)) hb4); clear hb4) | (go_at_call 27; refine (code_over.calls k _ _ _ _ _ _ ?hr hlr HV.out).mono ?_; (case hr => exact Kd.C_below hCr (by repeat (first | exact HB4.out | exact Below.refl _ _ | apply pw_below_drewN | apply below_drew1 | apply below_drew))); rintro e w5 ⟨rfl, hb5⟩; have HB5 := Aside0.mk (below_step (show Below wr.heap.size wr _ from by repeat (first | exact HB4.out | exact Below.refl _ _ | apply pw_below_drewN | apply below_drew1 | apply below_drew)) hb5); clear hb5))
        all_goals go_wp2
        all_goals go_ret2
        all_goals refine ⟨by first | rfl | simp [Act.put], below_step HBW.out (show Below wr.heap.size wr _ from by repeat (first | exact HB5.out | exact Below.refl _ _ | apply pw_below_drewN | apply below_drew1 | apply below_drew))⟩
      | succ kq =>
        have hi : i < pds.length := by omega
        have HIK := Aside0.mk hik
        obtain ⟨p, hp⟩ : ∃ p, pds[i]? = some p := ⟨pds[i], List.getElem?_eq_getElem hi⟩
        have hdrop : pds.drop i = p :: pds.drop (i + 1) := by rw [List.drop_eq_getElem_cons hi]; congr 1; rw [List.getElem?_eq_getElem hi] at hp; exact Option.some.inj hp
        have hF := HF.out
        rw [hdrop] at hF
        obtain ⟨u, hu, hF⟩ := Option.bind_eq_some_iff.mp hF
        obtain ⟨ys', hys, hF⟩ := Option.bind_eq_some_iff.mp hF
        injection hF with hF
        subst hF
        have hA := HN.out (by intro e; rw [e] at hi; simp at hi)
        subst hA
        have hpart := HP.out.row
        rw [HPD.out] at hpart
        obtain ⟨q, hq⟩ := hpart.get hp
        have hq := hq.below HW.out
        rw [show 0 + 5 * i = i * 5 by omega] at hq
        obtain ⟨c0, c1, c2, c3, c4, hok⟩ := hq
        have hbx : wr.heap[w.heap.size]? = _ := (HW.out.block _ (Array.getElem?_eq_some_iff.1 HBX3.out).1).trans HBX3.out
        obtain ⟨d0, d1, d2, d3, d4, d5, d6, d7, d8, d9⟩ := cells10_ hbx
        clear hdrop hp hpart hbx
        have HU := Aside0.mk hu
        have HYS := Aside0.mk hys
        have HOK := Aside0.mk hok
        clear hu hys hok
        have hz : w.heap.size < wr.heap.size := Nat.lt_of_lt_of_le (Array.getElem?_eq_some_iff.1 HBX3.out).1 HW.out.size
        have HBW := Aside0.mk (below_step HB3.out HW.out)
        have HGF := Aside0.mk (fun o : Obj => GetV.below HOK.out.get (below_alloc (Below.refl _ _) o))
        have HTB := Aside0.mk (fun o : Obj => TabW.below hTab (below_alloc HBW.out o))
        obtain ⟨Ao, co, rfl⟩ := Kd.R_slice HR.out
        have hx5 : xs.length < 5 := by have := HXL.out; have := HL5.out; omega
        have HX5 := Aside0.mk hx5
        clear hx5
        go_wp2_with (first | (go_at_call 26; refine (code_part_field.calls k p _ _ _ i0 i1 i2 i3 i4 i5 i6 i7 i8 i9 u _ (HGF.out _) HU.out (HTB.out _)).mono ?_; rintro e w5 ⟨rfl, hb5⟩; have HB5 := Aside0.mk (below_step (below_alloc HW.out _) hb5); have HR5 := Aside0.mk (Kd.R_below HR.out (below_step (below_alloc (Below.refl _ _) _) hb5)); clear hb5) | ((with_reducible refine gate_builtin (b := .append) (xs := #[.tmp 19, .tmp 23]) rfl ?_); at_builtin; refine Kd.R_append k60 (w0 := w3) w3.heap.size rfl (.tmp 19) (.tmp 23) 52 60 (.agg #[.int .i64 0, .int .i64 0, .int .u32 0]) 24 rfl Tryd.underlying52 info_fld rfl (by decide) (by omega) (.slice Ao xs.length co) xs (⟨p.at_, p.n_, u⟩ : S60) [.int .i64 p.at_, .int .i64 p.n_, .int .u32 u] (fun _ => True) (fun _ => False) rfl rfl ?aP (fun _ hk => hk.elim) ?aF ?aO ?aB ?aS ?aL ?_; (case aP => exact k60_mkM _ _ _ (⟨p.at_, p.n_, u⟩ : S60)); (case aB => exact HB5.out); (case aF => exact (fun _ _ => trivial)); (case aO => exact HR5.out); (case aS => exact (below_size HB5.out)); (case aL => have := HX5.out; omega); intro v1 w6 ho hb hg hat; have HO := Aside0.mk ho; have HB6 := Aside0.mk hb; clear ho hb hg hat))
        go_roundg kq
        case measure => omega
        case rel => exact ⟨i + 1, xs ++ [⟨p.at_, p.n_, u⟩], ys', by rw [show wrap64 ((i : Int) + 1) = ((i + 1 : Nat) : Int) by unfold wrap64; have h5 := HL5.out; have h6 := HIK.out; omega], by have := HIK.out; omega, ⟨HYS.out⟩, ⟨by rw [List.append_assoc]; exact HXY.out⟩, ⟨by rw [List.length_append, HXL.out]; rfl⟩, ⟨HO.out⟩, ⟨HB6.out⟩⟩

end Go.Proofs.YtkpkkjbigndnoaaDoor.P
