/- Written for this claim by a program of this session: what the claim uses of lemmas and proved contracts of Go functions. -/
import Derived.Test.YtflojfcioojgbaaGreatDoorYAl4
namespace Go.Proofs.YtflojfcioojgbaaGreatDoor.P
open Go.RowKit Go.Proofs.YtflojfcioojgbaaGreatDoorW.PrintWords Go.Proofs.YtflojfcioojgbaaGreatDoorW.PrintLast Go.Proofs.YtflojfcioojgbaaGreatDoorW.PrintMore
attribute [local go_sem] max2_int min2_int max_two min_two max_three min_three max_four min_four
set_option linter.unusedVariables false
set_option linter.unusedSimpArgs false
inductive PD where
  | d | n | m | a | imm (at_ n_ by_ : Int) (sg : Bool) | amt (at_ n_ by_ : Int) | sh | cond (at_ : Int) | lo | hi | mk (k : Nat)
def PD.at_ : PD → Int
  | .d => 0 | .n => 5 | .m => 16 | .a => 10 | .imm x _ _ _ => x | .amt x _ _ => x | .sh => 22 | .cond x => x | .lo => 29 | .hi => 5 | .mk 0 => 22 | .mk 1 => 16 | .mk _ => 10
def PD.n_ : PD → Int
  | .d => 5 | .n => 5 | .m => 5 | .a => 5 | .imm _ x _ _ => x | .amt _ x _ => x | .sh => 2 | .cond _ => 4 | .lo => 2 | .hi => 19 | .mk 0 => 1 | .mk _ => 6
def PD.sg_ : PD → Bool
  | .imm _ _ _ x => x | .hi => true | _ => false
def GetV (w : World) : PD → Value → Prop
  | .d, g => g = .func (.func 193) #[] #[]
  | .n, g => g = .func (.func 199) #[] #[]
  | .m, g => g = .func (.func 207) #[] #[]
  | .a, g => g = .func (.func 211) #[] #[]
  | .sh, g => g = .func (.func 209) #[] #[]
  | .cond _, g => g = .func (.func 217) #[] #[]
  | .lo, g => g = .func (.func 213) #[] #[]
  | .hi, g => g = .func (.func 215) #[] #[]
  | .imm _ _ b _, g => ∃ B, g = .func (.func 195) #[] #[.pointer (some ⟨B, 0, none⟩)] ∧ w.cell? ⟨B, 0, none⟩ = some (.int .i64 b)
  | .amt _ _ b, g => ∃ B, g = .func (.func 197) #[] #[.pointer (some ⟨B, 0, none⟩)] ∧ w.cell? ⟨B, 0, none⟩ = some (.int .i64 b)
  | .mk j, g => j < 3 ∧ ∃ B, g = .func (.func 202) #[] #[.pointer (some ⟨B, 0, none⟩)] ∧ w.cell? ⟨B, 0, none⟩ = some (.int .i64 j)
theorem GetV.below {w w' : World} {p : PD} {g : Value} (h : GetV w p g) (hb : Below w.heap.size w w') : GetV w' p g := by
  cases p <;> simp only [GetV] at h ⊢
  all_goals first
    | exact h
    | (obtain ⟨B, e, hc⟩ := h; exact ⟨B, e, pw_cell_below hb hc⟩)
    | (obtain ⟨hj, B, e, hc⟩ := h; exact ⟨hj, B, e, pw_cell_below hb hc⟩)
def PutV (w : World) (T lo : Nat) : PD → Value → Prop
  | .d, g => g = .func (.func 194) #[] #[]
  | .n, g => g = .func (.func 200) #[] #[]
  | .m, g => g = .func (.func 208) #[] #[]
  | .a, g => g = .func (.func 212) #[] #[]
  | .sh, g => g = .func (.func 210) #[] #[]
  | .cond _, g => g = .func (.func 218) #[] #[]
  | .lo, g => g = .func (.func 214) #[] #[]
  | .hi, g => g = .func (.func 216) #[] #[]
  | .imm _ _ b _, g => ∃ B, lo ≤ B ∧ g = .func (.func 196) #[] #[.pointer (some ⟨B, 0, none⟩)] ∧ w.cell? ⟨B, 0, none⟩ = some (.int .i64 b)
  | .amt _ _ b, g => ∃ B, lo ≤ B ∧ g = .func (.func 198) #[] #[.pointer (some ⟨B, 0, none⟩)] ∧ w.cell? ⟨B, 0, none⟩ = some (.int .i64 b)
  | .mk j, g => j < 3 ∧ ∃ B, lo ≤ B ∧ B ≠ T ∧ g = .func (.func 205) #[] #[.pointer (some ⟨T, 0, none⟩), .pointer (some ⟨B, 0, none⟩)] ∧ w.cell? ⟨B, 0, none⟩ = some (.int .i64 j)
theorem PutV.below {w w' : World} {T lo : Nat} {p : PD} {g : Value} (h : PutV w T lo p g) (hb : Below w.heap.size w w') : PutV w' T lo p g := by
  cases p <;> simp only [PutV] at h ⊢
  all_goals first
    | exact h
    | (obtain ⟨B, hl, e, hc⟩ := h; exact ⟨B, hl, e, pw_cell_below hb hc⟩)
    | (obtain ⟨hj, B, hl, hn, e, hc⟩ := h; exact ⟨hj, B, hl, hn, e, pw_cell_below hb hc⟩)
structure PF where
  gf : Nat
  gc : Array Value
  pf : Nat
  pc : Array Value
structure PartOk (w : World) (T lo : Nat) (p : PD) (q : PF) : Prop where
  get : GetV w p (.func (.func q.gf) #[] q.gc)
  put : PutV w T lo p (.func (.func q.pf) #[] q.pc)
theorem PartOk.below {w w' : World} {T lo : Nat} {p : PD} {q : PF} (h : PartOk w T lo p q) (hb : Below w.heap.size w w') : PartOk w' T lo p q := ⟨h.get.below hb, h.put.below hb⟩
structure PartAt (w : World) (T lo R o : Nat) (p : PD) (q : PF) : Prop where
  c0 : w.cell? ⟨R, o, none⟩ = some (.int .i64 p.at_)
  c1 : w.cell? ⟨R, o + 1, none⟩ = some (.int .i64 p.n_)
  c2 : w.cell? ⟨R, o + 2, none⟩ = some (.func (.func q.gf) #[] q.gc)
  c3 : w.cell? ⟨R, o + 3, none⟩ = some (.func (.func q.pf) #[] q.pc)
  c4 : w.cell? ⟨R, o + 4, none⟩ = some (.bool p.sg_)
  ok : PartOk w T lo p q
theorem PartAt.below {w w' : World} {T lo R o : Nat} {p : PD} {q : PF} (h : PartAt w T lo R o p q) (hb : Below w.heap.size w w') : PartAt w' T lo R o p q :=
  ⟨pw_cell_below hb h.c0, pw_cell_below hb h.c1, pw_cell_below hb h.c2, pw_cell_below hb h.c3, pw_cell_below hb h.c4, h.ok.below hb⟩
def PartsAt (w : World) (T lo R : Nat) : Nat → List PD → Prop
  | _, [] => True
  | o, p :: ps => (∃ q, PartAt w T lo R o p q) ∧ PartsAt w T lo R (o + 5) ps
theorem PartsAt.below {w w' : World} {T lo R : Nat} (hb : Below w.heap.size w w') : ∀ {ps : List PD} {o : Nat}, PartsAt w T lo R o ps → PartsAt w' T lo R o ps
  | [], _, _ => trivial
  | _ :: _, _, ⟨⟨q, h⟩, hs⟩ => ⟨⟨q, h.below hb⟩, PartsAt.below hb hs⟩
theorem PartsAt.get {w : World} {T lo R : Nat} : ∀ {ps : List PD} {o : Nat} {i : Nat} {p : PD}, PartsAt w T lo R o ps → ps[i]? = some p → ∃ q, PartAt w T lo R (o + 5 * i) p q
  | [], _, i, p, _, h => by simp at h
  | x :: ps, o, 0, p, ⟨hq, _⟩, h => by
    obtain rfl : x = p := by simpa using h
    exact hq
  | x :: ps, o, i + 1, p, ⟨_, hs⟩, h => by
    have := PartsAt.get hs (i := i) (by simpa using h)
    rw [show o + 5 + 5 * i = o + 5 * (i + 1) by omega] at this
    exact this
theorem PartAt.of {w : World} {T lo R o : Nat} {p : PD} {q : PF} {cur : Array Value} {t : TypeId} {fr : Nat × Nat} (hg : w.heap[R]? = some (.cells cur t fr)) (h0 : cur[o]? = some (.int .i64 p.at_)) (h1 : cur[o + 1]? = some (.int .i64 p.n_))
    (h2 : cur[o + 2]? = some (.func (.func q.gf) #[] q.gc)) (h3 : cur[o + 3]? = some (.func (.func q.pf) #[] q.pc)) (h4 : cur[o + 4]? = some (.bool p.sg_)) (hk : PartOk w T lo p q) : PartAt w T lo R o p q := by
  have e : ∀ j, w.cell? ⟨R, j, none⟩ = cur[j]? := fun j => by
    simp [World.cell?, hg]
  exact ⟨(e _).trans h0, (e _).trans h1, (e _).trans h2, (e _).trans h3, (e _).trans h4, hk⟩
theorem made_d (T lo : Nat) (w : World) : Calls Tryz.prog 145 #[] w fun e w' => ∃ q : PF, e = .returned (.agg #[.int .i64 0, .int .i64 5, .func (.func q.gf) #[] q.gc, .func (.func q.pf) #[] q.pc, .bool false]) ∧ PartOk w' T lo .d q ∧ Below w.heap.size w w' := by
  go_enter Tryz.func145, Tryz.ntmps145
  go_wp2
  refine bodyPost_ret (v := .agg #[.int .i64 0, .int .i64 5, .func (.func 193) #[] #[], .func (.func 194) #[] #[], .bool false]) (by simp [results, Tryz.results145, go_sem]) rfl ⟨⟨_, _, _, _⟩, rfl, ⟨rfl, rfl⟩, ?_⟩
  exact below_alloc (Below.refl _ _) _
theorem made_n (T lo : Nat) (w : World) : Calls Tryz.prog 148 #[] w fun e w' => ∃ q : PF, e = .returned (.agg #[.int .i64 5, .int .i64 5, .func (.func q.gf) #[] q.gc, .func (.func q.pf) #[] q.pc, .bool false]) ∧ PartOk w' T lo .n q ∧ Below w.heap.size w w' := by
  go_enter Tryz.func148, Tryz.ntmps148
  go_wp2
  refine bodyPost_ret (v := .agg #[.int .i64 5, .int .i64 5, .func (.func 199) #[] #[], .func (.func 200) #[] #[], .bool false]) (by simp [results, Tryz.results148, go_sem]) rfl ⟨⟨_, _, _, _⟩, rfl, ⟨rfl, rfl⟩, ?_⟩
  exact below_alloc (Below.refl _ _) _
theorem made_m (T lo : Nat) (w : World) : Calls Tryz.prog 150 #[] w fun e w' => ∃ q : PF, e = .returned (.agg #[.int .i64 16, .int .i64 5, .func (.func q.gf) #[] q.gc, .func (.func q.pf) #[] q.pc, .bool false]) ∧ PartOk w' T lo .m q ∧ Below w.heap.size w w' := by
  go_enter Tryz.func150, Tryz.ntmps150
  go_wp2
  refine bodyPost_ret (v := .agg #[.int .i64 16, .int .i64 5, .func (.func 207) #[] #[], .func (.func 208) #[] #[], .bool false]) (by simp [results, Tryz.results150, go_sem]) rfl ⟨⟨_, _, _, _⟩, rfl, ⟨rfl, rfl⟩, ?_⟩
  exact below_alloc (Below.refl _ _) _
theorem made_a (T lo : Nat) (w : World) : Calls Tryz.prog 152 #[] w fun e w' => ∃ q : PF, e = .returned (.agg #[.int .i64 10, .int .i64 5, .func (.func q.gf) #[] q.gc, .func (.func q.pf) #[] q.pc, .bool false]) ∧ PartOk w' T lo .a q ∧ Below w.heap.size w w' := by
  go_enter Tryz.func152, Tryz.ntmps152
  go_wp2
  refine bodyPost_ret (v := .agg #[.int .i64 10, .int .i64 5, .func (.func 211) #[] #[], .func (.func 212) #[] #[], .bool false]) (by simp [results, Tryz.results152, go_sem]) rfl ⟨⟨_, _, _, _⟩, rfl, ⟨rfl, rfl⟩, ?_⟩
  exact below_alloc (Below.refl _ _) _
theorem made_sh (T lo : Nat) (w : World) : Calls Tryz.prog 151 #[] w fun e w' => ∃ q : PF, e = .returned (.agg #[.int .i64 22, .int .i64 2, .func (.func q.gf) #[] q.gc, .func (.func q.pf) #[] q.pc, .bool false]) ∧ PartOk w' T lo .sh q ∧ Below w.heap.size w w' := by
  go_enter Tryz.func151, Tryz.ntmps151
  go_wp2
  refine bodyPost_ret (v := .agg #[.int .i64 22, .int .i64 2, .func (.func 209) #[] #[], .func (.func 210) #[] #[], .bool false]) (by simp [results, Tryz.results151, go_sem]) rfl ⟨⟨_, _, _, _⟩, rfl, ⟨rfl, rfl⟩, ?_⟩
  exact below_alloc (Below.refl _ _) _
theorem made_cond (T lo : Nat) (x : Int) (w : World) : Calls Tryz.prog 154 #[.int .i64 x] w fun e w' => ∃ q : PF, e = .returned (.agg #[.int .i64 x, .int .i64 4, .func (.func q.gf) #[] q.gc, .func (.func q.pf) #[] q.pc, .bool false]) ∧ PartOk w' T lo (.cond x) q ∧ Below w.heap.size w w' := by
  go_enter Tryz.func154, Tryz.ntmps154
  go_wp2
  refine bodyPost_ret (v := .agg #[.int .i64 x, .int .i64 4, .func (.func 217) #[] #[], .func (.func 218) #[] #[], .bool false]) (by simp [results, Tryz.results154, go_sem]) rfl ⟨⟨_, _, _, _⟩, rfl, ⟨rfl, rfl⟩, ?_⟩
  exact below_alloc (Below.refl _ _) _
theorem made_imm (T lo : Nat) (x n b : Int) (s : Bool) (w : World) (hlo : lo ≤ w.heap.size) : Calls Tryz.prog 146 #[.int .i64 x, .int .i64 n, .int .i64 b, .bool s] w fun e w' => ∃ q : PF, e = .returned (.agg #[.int .i64 x, .int .i64 n, .func (.func q.gf) #[] q.gc, .func (.func q.pf) #[] q.pc, .bool s]) ∧ PartOk w' T lo (.imm x n b s) q ∧ Below w.heap.size w w' := by
  go_enter Tryz.func146, Tryz.ntmps146
  go_wp2
  have hc : ((w.alloc (.cells #[.int .i64 b] 3 (0, 0))).alloc (.cells #[.int .i64 x, .int .i64 n, .func (.func 195) #[] #[.pointer (some ⟨w.heap.size, 0, none⟩)], .func (.func 196) #[] #[.pointer (some ⟨w.heap.size, 0, none⟩)], .bool s] 185)).cell? ⟨w.heap.size, 0, none⟩ = some (.int .i64 b) := by simp [go_sem]
  refine bodyPost_ret (v := .agg #[.int .i64 x, .int .i64 n, .func (.func 195) #[] #[.pointer (some ⟨w.heap.size, 0, none⟩)], .func (.func 196) #[] #[.pointer (some ⟨w.heap.size, 0, none⟩)], .bool s]) (by simp [results, Tryz.results146, go_sem]) rfl ⟨⟨_, _, _, _⟩, rfl, ⟨⟨_, rfl, hc⟩, ⟨_, hlo, rfl, hc⟩⟩, ?_⟩
  exact below_alloc (below_alloc (Below.refl _ _) _) _
theorem made_amt (T lo : Nat) (x n b : Int) (w : World) (hlo : lo ≤ w.heap.size) : Calls Tryz.prog 147 #[.int .i64 x, .int .i64 n, .int .i64 b] w fun e w' => ∃ q : PF, e = .returned (.agg #[.int .i64 x, .int .i64 n, .func (.func q.gf) #[] q.gc, .func (.func q.pf) #[] q.pc, .bool false]) ∧ PartOk w' T lo (.amt x n b) q ∧ Below w.heap.size w w' := by
  go_enter Tryz.func147, Tryz.ntmps147
  go_wp2
  have hc : ((w.alloc (.cells #[.int .i64 b] 3 (0, 0))).alloc (.cells #[.int .i64 x, .int .i64 n, .func (.func 197) #[] #[.pointer (some ⟨w.heap.size, 0, none⟩)], .func (.func 198) #[] #[.pointer (some ⟨w.heap.size, 0, none⟩)], .bool false] 185)).cell? ⟨w.heap.size, 0, none⟩ = some (.int .i64 b) := by simp [go_sem]
  refine bodyPost_ret (v := .agg #[.int .i64 x, .int .i64 n, .func (.func 197) #[] #[.pointer (some ⟨w.heap.size, 0, none⟩)], .func (.func 198) #[] #[.pointer (some ⟨w.heap.size, 0, none⟩)], .bool false]) (by simp [results, Tryz.results147, go_sem]) rfl ⟨⟨_, _, _, _⟩, rfl, ⟨⟨_, rfl, hc⟩, ⟨_, hlo, rfl, hc⟩⟩, ?_⟩
  exact below_alloc (below_alloc (Below.refl _ _) _) _
def ToldIs (w : World) (T : Nat) (t0 t1 t2 : Int) : Prop := w.heap[T]? = some (.cells #[.int .i64 t0, .int .i64 t1, .int .i64 t2] 272 (0, 0))
theorem cd_last (w : World) (o : Obj) : (w.alloc o).heap[w.heap.size]? = some o := by
  show (w.heap.push o)[w.heap.size]? = some o
  simp
theorem ToldIs.below {w w' : World} {T : Nat} {t0 t1 t2 : Int} (h : ToldIs w T t0 t1 t2) (hb : Below w.heap.size w w') : ToldIs w' T t0 t1 t2 := (hb.block T (Array.getElem?_eq_some_iff.1 h).1).trans h
theorem take_get_ {α : Type} {a : Array α} {m : Nat} {xs : List α} (h : a.toList.take m = xs) (j : Nat) (hj : j < m) : a[j]? = xs[j]? := by
  subst h
  rw [List.getElem?_take_of_lt hj, Array.getElem?_toList]
def PartCells (p : PD) (q : PF) : List Value := [.int .i64 p.at_, .int .i64 p.n_, .func (.func q.gf) #[] q.gc, .func (.func q.pf) #[] q.pc, .bool p.sg_]
set_option maxHeartbeats 4000000 in
theorem made_masked (lo : Nat) (w : World) (hlo : lo ≤ w.heap.size) : Calls Tryz.prog 149 #[] w fun e w' => ∃ w6 T q0 q1 q2, e = .returned (.slice (some ⟨w6.heap.size, 0, none⟩) 3 3) ∧ w6.alloc (.cells (PartCells (.mk 0) q0 ++ PartCells (.mk 1) q1 ++ PartCells (.mk 2) q2).toArray 185 (0, 0)) = w' ∧
    PartOk w6 T lo (.mk 0) q0 ∧ PartOk w6 T lo (.mk 1) q1 ∧ PartOk w6 T lo (.mk 2) q2 ∧ ToldIs w6 T 0 0 0 ∧ w.heap.size ≤ T ∧ Below w.heap.size w w6 := by
  have hmf : ∀ (fn : Fn) (first cap : Array Value) (w : World), (Instr.makeFunc fn first cap).run Tryz.prog w = .ok (.func fn first cap) w := fun _ _ _ _ => rfl
  go_enter Tryz.func149, Tryz.ntmps149
  go_wp2
  go_ret
  refine ⟨_, w.heap.size, ⟨_, _, _, _⟩, ⟨_, _, _, _⟩, ⟨_, _, _, _⟩, ?r, rfl, ⟨⟨by omega, _, rfl, ?c0⟩, ⟨by omega, _, ?l0, ?n0, rfl, ?d0⟩⟩, ⟨⟨by omega, _, rfl, ?c1⟩, ⟨by omega, _, ?l1, ?n1, rfl, ?d1⟩⟩, ⟨⟨by omega, _, rfl, ?c2⟩, ⟨by omega, _, ?l2, ?n2, rfl, ?d2⟩⟩, ?t, Nat.le_refl _, ?b⟩
  case b => exact below_alloc (below_alloc (below_alloc (below_alloc (below_alloc (below_alloc (below_alloc (Below.refl _ _) _) _) _) _) _) _) _
  case t => exact blk_alloc (blk_alloc (blk_alloc (blk_alloc (blk_alloc (blk_alloc (cd_last w _) _) _) _) _) _) _
  all_goals first | (simp [go_sem]; done) | omega | (simp; omega)
theorem made_page (T lo : Nat) (w : World) : Calls Tryz.prog 153 #[] w fun e w' => ∃ w6 q0 q1, e = .returned (.slice (some ⟨w6.heap.size, 0, none⟩) 2 2) ∧ w6.alloc (.cells (PartCells .lo q0 ++ PartCells .hi q1).toArray 185 (0, 0)) = w' ∧
    PartOk w6 T lo .lo q0 ∧ PartOk w6 T lo .hi q1 ∧ Below w.heap.size w w6 := by
  go_enter Tryz.func153, Tryz.ntmps153
  go_wp2
  go_ret
  refine ⟨_, ⟨_, _, _, _⟩, ⟨_, _, _, _⟩, ?r, rfl, ⟨rfl, rfl⟩, ⟨rfl, rfl⟩, ?b⟩
  case b => exact below_alloc (below_alloc (Below.refl _ _) _) _
  case r => simp
def partsOf (s : Int) : List PD := if s = 1 then [.d, .imm 5 16 1 false, .amt 21 2 16] else if s = 2 then [.d, .n, .imm 10 12 1 false, .amt 22 1 12] else if s = 3 then [.mk 0, .mk 1, .mk 2, .d, .n] else if s = 4 then [.d, .n, .m, .amt 10 6 1, .sh] else if s = 5 then [.d, .n, .m, .amt 10 6 1, .sh] else if s = 6 then [.d, .n, .m, .a] else if s = 7 then [.d, .n, .imm 10 12 8 false] else if s = 8 then [.d, .n, .imm 10 12 1 false] else if s = 9 then [.d, .imm 5 19 4 true] else if s = 10 then [.lo, .hi, .d] else if s = 11 then [.imm 0 26 4 true] else if s = 12 then [.cond 0, .imm 5 19 4 true] else if s = 13 then [.n] else if s = 14 then [.imm 5 16 1 false] else if s = 16 then [.d, .n, .m, .cond 12] else []
def flatP : List PD → List PF → List Value
  | p :: ps, q :: qs => PartCells p q ++ flatP ps qs
  | _, _ => []
def Oks (w : World) (T lo : Nat) : List PD → List PF → Prop
  | [], [] => True
  | p :: ps, q :: qs => PartOk w T lo p q ∧ Oks w T lo ps qs
  | _, _ => False
theorem Oks.below {w w' : World} {T lo : Nat} (hb : Below w.heap.size w w') : ∀ {ps : List PD} {qs : List PF}, Oks w T lo ps qs → Oks w' T lo ps qs
  | [], [], _ => trivial
  | _ :: _, _ :: _, ⟨h, hs⟩ => ⟨h.below hb, Oks.below hb hs⟩
theorem PartsAt.of {w : World} {T lo R : Nat} {cur : Array Value} {t : TypeId} {fr : Nat × Nat} (hg : w.heap[R]? = some (.cells cur t fr)) : ∀ {ps : List PD} {qs : List PF} {o : Nat}, Oks w T lo ps qs → (∀ j, j < (flatP ps qs).length → cur[o + j]? = (flatP ps qs)[j]?) → PartsAt w T lo R o ps
  | [], [], _, _, _ => trivial
  | p :: ps, q :: qs, o, ⟨h, hs⟩, hc => by
    have hl : (flatP (p :: ps) (q :: qs)).length = 5 + (flatP ps qs).length := by
      simp only [flatP, PartCells, List.length_append, List.length_cons, List.length_nil]
    refine ⟨⟨q, PartAt.of hg ?_ ?_ ?_ ?_ ?_ h⟩, PartsAt.of hg hs (o := o + 5) fun j hj => ?_⟩
    · exact (hc 0 (by omega)).trans rfl
    · exact (hc 1 (by omega)).trans rfl
    · exact (hc 2 (by omega)).trans rfl
    · exact (hc 3 (by omega)).trans rfl
    · exact (hc 4 (by omega)).trans rfl
    · rw [show o + 5 + j = o + (5 + j) by omega, hc (5 + j) (by omega)]
      simp only [flatP]
      rw [List.getElem?_append_right (by simp [PartCells])]
      simp [PartCells]
set_option maxHeartbeats 2000000 in
theorem parts_1 (T lo : Nat) (w : World) (hlo : lo ≤ w.heap.size) : Calls Tryz.prog 99 #[.int .i64 1] w fun e w' => ∃ w6 qs, e = .returned (.slice (some ⟨w6.heap.size, 0, none⟩) 3 3) ∧ w6.alloc (.cells (flatP [.d, .imm 5 16 1 false, .amt 21 2 16] qs).toArray 185 (0, 0)) = w' ∧ Oks w6 T lo [.d, .imm 5 16 1 false, .amt 21 2 16] qs ∧ Below w.heap.size w w6 := by
  go_enter Tryz.func99, Tryz.ntmps99
  go_wp2_with fail
  refine (made_d T lo _).mono ?_
  rintro e w1 ⟨q1, rfl, k1, b1⟩
  have k1_ := aq k1
  have b1_ := aq b1
  clear k1 b1
  go_wp2_with fail
  refine (made_imm T lo 5 16 1 false _ (by have := hlo; have := b1_.out.size; omega)).mono ?_
  rintro e w2 ⟨q2, rfl, k2, b2⟩
  have k2_ := aq k2
  have b2_ := aq b2
  clear k2 b2
  go_wp2_with fail
  refine (made_amt T lo 21 2 16 _ (by have := hlo; have := b1_.out.size; have := b2_.out.size; omega)).mono ?_
  rintro e w3 ⟨q3, rfl, k3, b3⟩
  have k3_ := aq k3
  have b3_ := aq b3
  clear k3 b3
  go_wp2_with fail
  go_ret
  exact ⟨_, [q1, q2, q3], rfl, rfl, ⟨k1_.out.below (below_step b2_.out b3_.out), k2_.out.below b3_.out, k3_.out, trivial⟩, below_step (below_step b1_.out b2_.out) b3_.out⟩
set_option maxHeartbeats 2000000 in
theorem parts_2 (T lo : Nat) (w : World) (hlo : lo ≤ w.heap.size) : Calls Tryz.prog 99 #[.int .i64 2] w fun e w' => ∃ w6 qs, e = .returned (.slice (some ⟨w6.heap.size, 0, none⟩) 4 4) ∧ w6.alloc (.cells (flatP [.d, .n, .imm 10 12 1 false, .amt 22 1 12] qs).toArray 185 (0, 0)) = w' ∧ Oks w6 T lo [.d, .n, .imm 10 12 1 false, .amt 22 1 12] qs ∧ Below w.heap.size w w6 := by
  go_enter Tryz.func99, Tryz.ntmps99
  go_wp2_with fail
  refine (made_d T lo _).mono ?_
  rintro e w1 ⟨q1, rfl, k1, b1⟩
  have k1_ := aq k1
  have b1_ := aq b1
  clear k1 b1
  go_wp2_with fail
  refine (made_n T lo _).mono ?_
  rintro e w2 ⟨q2, rfl, k2, b2⟩
  have k2_ := aq k2
  have b2_ := aq b2
  clear k2 b2
  go_wp2_with fail
  refine (made_imm T lo 10 12 1 false _ (by have := hlo; have := b1_.out.size; have := b2_.out.size; omega)).mono ?_
  rintro e w3 ⟨q3, rfl, k3, b3⟩
  have k3_ := aq k3
  have b3_ := aq b3
  clear k3 b3
  go_wp2_with fail
  refine (made_amt T lo 22 1 12 _ (by have := hlo; have := b1_.out.size; have := b2_.out.size; have := b3_.out.size; omega)).mono ?_
  rintro e w4 ⟨q4, rfl, k4, b4⟩
  have k4_ := aq k4
  have b4_ := aq b4
  clear k4 b4
  go_wp2_with fail
  go_ret
  exact ⟨_, [q1, q2, q3, q4], rfl, rfl, ⟨k1_.out.below (below_step (below_step b2_.out b3_.out) b4_.out), k2_.out.below (below_step b3_.out b4_.out), k3_.out.below b4_.out, k4_.out, trivial⟩, below_step (below_step (below_step b1_.out b2_.out) b3_.out) b4_.out⟩
set_option maxHeartbeats 2000000 in
theorem parts_4 (T lo : Nat) (w : World) (hlo : lo ≤ w.heap.size) : Calls Tryz.prog 99 #[.int .i64 4] w fun e w' => ∃ w6 qs, e = .returned (.slice (some ⟨w6.heap.size, 0, none⟩) 5 5) ∧ w6.alloc (.cells (flatP [.d, .n, .m, .amt 10 6 1, .sh] qs).toArray 185 (0, 0)) = w' ∧ Oks w6 T lo [.d, .n, .m, .amt 10 6 1, .sh] qs ∧ Below w.heap.size w w6 := by
  go_enter Tryz.func99, Tryz.ntmps99
  go_wp2_with fail
  refine (made_d T lo _).mono ?_
  rintro e w1 ⟨q1, rfl, k1, b1⟩
  have k1_ := aq k1
  have b1_ := aq b1
  clear k1 b1
  go_wp2_with fail
  refine (made_n T lo _).mono ?_
  rintro e w2 ⟨q2, rfl, k2, b2⟩
  have k2_ := aq k2
  have b2_ := aq b2
  clear k2 b2
  go_wp2_with fail
  refine (made_m T lo _).mono ?_
  rintro e w3 ⟨q3, rfl, k3, b3⟩
  have k3_ := aq k3
  have b3_ := aq b3
  clear k3 b3
  go_wp2_with fail
  refine (made_amt T lo 10 6 1 _ (by have := hlo; have := b1_.out.size; have := b2_.out.size; have := b3_.out.size; omega)).mono ?_
  rintro e w4 ⟨q4, rfl, k4, b4⟩
  have k4_ := aq k4
  have b4_ := aq b4
  clear k4 b4
  go_wp2_with fail
  refine (made_sh T lo _).mono ?_
  rintro e w5 ⟨q5, rfl, k5, b5⟩
  have k5_ := aq k5
  have b5_ := aq b5
  clear k5 b5
  go_wp2_with fail
  go_ret
  exact ⟨_, [q1, q2, q3, q4, q5], rfl, rfl, ⟨k1_.out.below (below_step (below_step (below_step b2_.out b3_.out) b4_.out) b5_.out), k2_.out.below (below_step (below_step b3_.out b4_.out) b5_.out), k3_.out.below (below_step b4_.out b5_.out), k4_.out.below b5_.out, k5_.out, trivial⟩, below_step (below_step (below_step (below_step b1_.out b2_.out) b3_.out) b4_.out) b5_.out⟩
set_option maxHeartbeats 2000000 in
theorem parts_5 (T lo : Nat) (w : World) (hlo : lo ≤ w.heap.size) : Calls Tryz.prog 99 #[.int .i64 5] w fun e w' => ∃ w6 qs, e = .returned (.slice (some ⟨w6.heap.size, 0, none⟩) 5 5) ∧ w6.alloc (.cells (flatP [.d, .n, .m, .amt 10 6 1, .sh] qs).toArray 185 (0, 0)) = w' ∧ Oks w6 T lo [.d, .n, .m, .amt 10 6 1, .sh] qs ∧ Below w.heap.size w w6 := by
  go_enter Tryz.func99, Tryz.ntmps99
  go_wp2_with fail
  refine (made_d T lo _).mono ?_
  rintro e w1 ⟨q1, rfl, k1, b1⟩
  have k1_ := aq k1
  have b1_ := aq b1
  clear k1 b1
  go_wp2_with fail
  refine (made_n T lo _).mono ?_
  rintro e w2 ⟨q2, rfl, k2, b2⟩
  have k2_ := aq k2
  have b2_ := aq b2
  clear k2 b2
  go_wp2_with fail
  refine (made_m T lo _).mono ?_
  rintro e w3 ⟨q3, rfl, k3, b3⟩
  have k3_ := aq k3
  have b3_ := aq b3
  clear k3 b3
  go_wp2_with fail
  refine (made_amt T lo 10 6 1 _ (by have := hlo; have := b1_.out.size; have := b2_.out.size; have := b3_.out.size; omega)).mono ?_
  rintro e w4 ⟨q4, rfl, k4, b4⟩
  have k4_ := aq k4
  have b4_ := aq b4
  clear k4 b4
  go_wp2_with fail
  refine (made_sh T lo _).mono ?_
  rintro e w5 ⟨q5, rfl, k5, b5⟩
  have k5_ := aq k5
  have b5_ := aq b5
  clear k5 b5
  go_wp2_with fail
  go_ret
  exact ⟨_, [q1, q2, q3, q4, q5], rfl, rfl, ⟨k1_.out.below (below_step (below_step (below_step b2_.out b3_.out) b4_.out) b5_.out), k2_.out.below (below_step (below_step b3_.out b4_.out) b5_.out), k3_.out.below (below_step b4_.out b5_.out), k4_.out.below b5_.out, k5_.out, trivial⟩, below_step (below_step (below_step (below_step b1_.out b2_.out) b3_.out) b4_.out) b5_.out⟩
set_option maxHeartbeats 2000000 in
theorem parts_6 (T lo : Nat) (w : World) (hlo : lo ≤ w.heap.size) : Calls Tryz.prog 99 #[.int .i64 6] w fun e w' => ∃ w6 qs, e = .returned (.slice (some ⟨w6.heap.size, 0, none⟩) 4 4) ∧ w6.alloc (.cells (flatP [.d, .n, .m, .a] qs).toArray 185 (0, 0)) = w' ∧ Oks w6 T lo [.d, .n, .m, .a] qs ∧ Below w.heap.size w w6 := by
  go_enter Tryz.func99, Tryz.ntmps99
  go_wp2_with fail
  refine (made_d T lo _).mono ?_
  rintro e w1 ⟨q1, rfl, k1, b1⟩
  have k1_ := aq k1
  have b1_ := aq b1
  clear k1 b1
  go_wp2_with fail
  refine (made_n T lo _).mono ?_
  rintro e w2 ⟨q2, rfl, k2, b2⟩
  have k2_ := aq k2
  have b2_ := aq b2
  clear k2 b2
  go_wp2_with fail
  refine (made_m T lo _).mono ?_
  rintro e w3 ⟨q3, rfl, k3, b3⟩
  have k3_ := aq k3
  have b3_ := aq b3
  clear k3 b3
  go_wp2_with fail
  refine (made_a T lo _).mono ?_
  rintro e w4 ⟨q4, rfl, k4, b4⟩
  have k4_ := aq k4
  have b4_ := aq b4
  clear k4 b4
  go_wp2_with fail
  go_ret
  exact ⟨_, [q1, q2, q3, q4], rfl, rfl, ⟨k1_.out.below (below_step (below_step b2_.out b3_.out) b4_.out), k2_.out.below (below_step b3_.out b4_.out), k3_.out.below b4_.out, k4_.out, trivial⟩, below_step (below_step (below_step b1_.out b2_.out) b3_.out) b4_.out⟩
set_option maxHeartbeats 2000000 in
theorem parts_7 (T lo : Nat) (w : World) (hlo : lo ≤ w.heap.size) : Calls Tryz.prog 99 #[.int .i64 7] w fun e w' => ∃ w6 qs, e = .returned (.slice (some ⟨w6.heap.size, 0, none⟩) 3 3) ∧ w6.alloc (.cells (flatP [.d, .n, .imm 10 12 8 false] qs).toArray 185 (0, 0)) = w' ∧ Oks w6 T lo [.d, .n, .imm 10 12 8 false] qs ∧ Below w.heap.size w w6 := by
  go_enter Tryz.func99, Tryz.ntmps99
  go_wp2_with fail
  refine (made_d T lo _).mono ?_
  rintro e w1 ⟨q1, rfl, k1, b1⟩
  have k1_ := aq k1
  have b1_ := aq b1
  clear k1 b1
  go_wp2_with fail
  refine (made_n T lo _).mono ?_
  rintro e w2 ⟨q2, rfl, k2, b2⟩
  have k2_ := aq k2
  have b2_ := aq b2
  clear k2 b2
  go_wp2_with fail
  refine (made_imm T lo 10 12 8 false _ (by have := hlo; have := b1_.out.size; have := b2_.out.size; omega)).mono ?_
  rintro e w3 ⟨q3, rfl, k3, b3⟩
  have k3_ := aq k3
  have b3_ := aq b3
  clear k3 b3
  go_wp2_with fail
  go_ret
  exact ⟨_, [q1, q2, q3], rfl, rfl, ⟨k1_.out.below (below_step b2_.out b3_.out), k2_.out.below b3_.out, k3_.out, trivial⟩, below_step (below_step b1_.out b2_.out) b3_.out⟩
set_option maxHeartbeats 2000000 in
theorem parts_8 (T lo : Nat) (w : World) (hlo : lo ≤ w.heap.size) : Calls Tryz.prog 99 #[.int .i64 8] w fun e w' => ∃ w6 qs, e = .returned (.slice (some ⟨w6.heap.size, 0, none⟩) 3 3) ∧ w6.alloc (.cells (flatP [.d, .n, .imm 10 12 1 false] qs).toArray 185 (0, 0)) = w' ∧ Oks w6 T lo [.d, .n, .imm 10 12 1 false] qs ∧ Below w.heap.size w w6 := by
  go_enter Tryz.func99, Tryz.ntmps99
  go_wp2_with fail
  refine (made_d T lo _).mono ?_
  rintro e w1 ⟨q1, rfl, k1, b1⟩
  have k1_ := aq k1
  have b1_ := aq b1
  clear k1 b1
  go_wp2_with fail
  refine (made_n T lo _).mono ?_
  rintro e w2 ⟨q2, rfl, k2, b2⟩
  have k2_ := aq k2
  have b2_ := aq b2
  clear k2 b2
  go_wp2_with fail
  refine (made_imm T lo 10 12 1 false _ (by have := hlo; have := b1_.out.size; have := b2_.out.size; omega)).mono ?_
  rintro e w3 ⟨q3, rfl, k3, b3⟩
  have k3_ := aq k3
  have b3_ := aq b3
  clear k3 b3
  go_wp2_with fail
  go_ret
  exact ⟨_, [q1, q2, q3], rfl, rfl, ⟨k1_.out.below (below_step b2_.out b3_.out), k2_.out.below b3_.out, k3_.out, trivial⟩, below_step (below_step b1_.out b2_.out) b3_.out⟩
set_option maxHeartbeats 2000000 in
theorem parts_9 (T lo : Nat) (w : World) (hlo : lo ≤ w.heap.size) : Calls Tryz.prog 99 #[.int .i64 9] w fun e w' => ∃ w6 qs, e = .returned (.slice (some ⟨w6.heap.size, 0, none⟩) 2 2) ∧ w6.alloc (.cells (flatP [.d, .imm 5 19 4 true] qs).toArray 185 (0, 0)) = w' ∧ Oks w6 T lo [.d, .imm 5 19 4 true] qs ∧ Below w.heap.size w w6 := by
  go_enter Tryz.func99, Tryz.ntmps99
  go_wp2_with fail
  refine (made_d T lo _).mono ?_
  rintro e w1 ⟨q1, rfl, k1, b1⟩
  have k1_ := aq k1
  have b1_ := aq b1
  clear k1 b1
  go_wp2_with fail
  refine (made_imm T lo 5 19 4 true _ (by have := hlo; have := b1_.out.size; omega)).mono ?_
  rintro e w2 ⟨q2, rfl, k2, b2⟩
  have k2_ := aq k2
  have b2_ := aq b2
  clear k2 b2
  go_wp2_with fail
  go_ret
  exact ⟨_, [q1, q2], rfl, rfl, ⟨k1_.out.below b2_.out, k2_.out, trivial⟩, below_step b1_.out b2_.out⟩
set_option maxHeartbeats 2000000 in
theorem parts_11 (T lo : Nat) (w : World) (hlo : lo ≤ w.heap.size) : Calls Tryz.prog 99 #[.int .i64 11] w fun e w' => ∃ w6 qs, e = .returned (.slice (some ⟨w6.heap.size, 0, none⟩) 1 1) ∧ w6.alloc (.cells (flatP [.imm 0 26 4 true] qs).toArray 185 (0, 0)) = w' ∧ Oks w6 T lo [.imm 0 26 4 true] qs ∧ Below w.heap.size w w6 := by
  go_enter Tryz.func99, Tryz.ntmps99
  go_wp2_with fail
  refine (made_imm T lo 0 26 4 true _ (by have := hlo; omega)).mono ?_
  rintro e w1 ⟨q1, rfl, k1, b1⟩
  have k1_ := aq k1
  have b1_ := aq b1
  clear k1 b1
  go_wp2_with fail
  go_ret
  exact ⟨_, [q1], rfl, rfl, ⟨k1_.out, trivial⟩, b1_.out⟩
set_option maxHeartbeats 2000000 in
theorem parts_12 (T lo : Nat) (w : World) (hlo : lo ≤ w.heap.size) : Calls Tryz.prog 99 #[.int .i64 12] w fun e w' => ∃ w6 qs, e = .returned (.slice (some ⟨w6.heap.size, 0, none⟩) 2 2) ∧ w6.alloc (.cells (flatP [.cond 0, .imm 5 19 4 true] qs).toArray 185 (0, 0)) = w' ∧ Oks w6 T lo [.cond 0, .imm 5 19 4 true] qs ∧ Below w.heap.size w w6 := by
  go_enter Tryz.func99, Tryz.ntmps99
  go_wp2_with fail
  refine (made_cond T lo 0 _).mono ?_
  rintro e w1 ⟨q1, rfl, k1, b1⟩
  have k1_ := aq k1
  have b1_ := aq b1
  clear k1 b1
  go_wp2_with fail
  refine (made_imm T lo 5 19 4 true _ (by have := hlo; have := b1_.out.size; omega)).mono ?_
  rintro e w2 ⟨q2, rfl, k2, b2⟩
  have k2_ := aq k2
  have b2_ := aq b2
  clear k2 b2
  go_wp2_with fail
  go_ret
  exact ⟨_, [q1, q2], rfl, rfl, ⟨k1_.out.below b2_.out, k2_.out, trivial⟩, below_step b1_.out b2_.out⟩
set_option maxHeartbeats 2000000 in
theorem parts_13 (T lo : Nat) (w : World) (hlo : lo ≤ w.heap.size) : Calls Tryz.prog 99 #[.int .i64 13] w fun e w' => ∃ w6 qs, e = .returned (.slice (some ⟨w6.heap.size, 0, none⟩) 1 1) ∧ w6.alloc (.cells (flatP [.n] qs).toArray 185 (0, 0)) = w' ∧ Oks w6 T lo [.n] qs ∧ Below w.heap.size w w6 := by
  go_enter Tryz.func99, Tryz.ntmps99
  go_wp2_with fail
  refine (made_n T lo _).mono ?_
  rintro e w1 ⟨q1, rfl, k1, b1⟩
  have k1_ := aq k1
  have b1_ := aq b1
  clear k1 b1
  go_wp2_with fail
  go_ret
  exact ⟨_, [q1], rfl, rfl, ⟨k1_.out, trivial⟩, b1_.out⟩
set_option maxHeartbeats 2000000 in
theorem parts_14 (T lo : Nat) (w : World) (hlo : lo ≤ w.heap.size) : Calls Tryz.prog 99 #[.int .i64 14] w fun e w' => ∃ w6 qs, e = .returned (.slice (some ⟨w6.heap.size, 0, none⟩) 1 1) ∧ w6.alloc (.cells (flatP [.imm 5 16 1 false] qs).toArray 185 (0, 0)) = w' ∧ Oks w6 T lo [.imm 5 16 1 false] qs ∧ Below w.heap.size w w6 := by
  go_enter Tryz.func99, Tryz.ntmps99
  go_wp2_with fail
  refine (made_imm T lo 5 16 1 false _ (by have := hlo; omega)).mono ?_
  rintro e w1 ⟨q1, rfl, k1, b1⟩
  have k1_ := aq k1
  have b1_ := aq b1
  clear k1 b1
  go_wp2_with fail
  go_ret
  exact ⟨_, [q1], rfl, rfl, ⟨k1_.out, trivial⟩, b1_.out⟩
set_option maxHeartbeats 2000000 in
theorem parts_16 (T lo : Nat) (w : World) (hlo : lo ≤ w.heap.size) : Calls Tryz.prog 99 #[.int .i64 16] w fun e w' => ∃ w6 qs, e = .returned (.slice (some ⟨w6.heap.size, 0, none⟩) 4 4) ∧ w6.alloc (.cells (flatP [.d, .n, .m, .cond 12] qs).toArray 185 (0, 0)) = w' ∧ Oks w6 T lo [.d, .n, .m, .cond 12] qs ∧ Below w.heap.size w w6 := by
  go_enter Tryz.func99, Tryz.ntmps99
  go_wp2_with fail
  refine (made_d T lo _).mono ?_
  rintro e w1 ⟨q1, rfl, k1, b1⟩
  have k1_ := aq k1
  have b1_ := aq b1
  clear k1 b1
  go_wp2_with fail
  refine (made_n T lo _).mono ?_
  rintro e w2 ⟨q2, rfl, k2, b2⟩
  have k2_ := aq k2
  have b2_ := aq b2
  clear k2 b2
  go_wp2_with fail
  refine (made_m T lo _).mono ?_
  rintro e w3 ⟨q3, rfl, k3, b3⟩
  have k3_ := aq k3
  have b3_ := aq b3
  clear k3 b3
  go_wp2_with fail
  refine (made_cond T lo 12 _).mono ?_
  rintro e w4 ⟨q4, rfl, k4, b4⟩
  have k4_ := aq k4
  have b4_ := aq b4
  clear k4 b4
  go_wp2_with fail
  go_ret
  exact ⟨_, [q1, q2, q3, q4], rfl, rfl, ⟨k1_.out.below (below_step (below_step b2_.out b3_.out) b4_.out), k2_.out.below (below_step b3_.out b4_.out), k3_.out.below b4_.out, k4_.out, trivial⟩, below_step (below_step (below_step b1_.out b2_.out) b3_.out) b4_.out⟩
theorem parts_none (s : Int) (w : World) (h : partsOf s = []) : Calls Tryz.prog 99 #[.int .i64 s] w fun e w' => e = .returned (.slice none 0 0) ∧ w = w' := by
  have hs : ¬ s = 1 ∧ ¬ s = 2 ∧ ¬ s = 3 ∧ ¬ s = 4 ∧ ¬ s = 5 ∧ ¬ s = 6 ∧ ¬ s = 7 ∧ ¬ s = 8 ∧ ¬ s = 9 ∧ ¬ s = 10 ∧ ¬ s = 11 ∧ ¬ s = 12 ∧ ¬ s = 13 ∧ ¬ s = 14 ∧ ¬ s = 16 := by
    refine ⟨?_, ?_, ?_, ?_, ?_, ?_, ?_, ?_, ?_, ?_, ?_, ?_, ?_, ?_, ?_⟩ <;> (rintro rfl; simp [partsOf] at h)
  obtain ⟨h1, h2, h3, h4, h5, h6, h7, h8, h9, h10, h11, h12, h13, h14, h16⟩ := hs
  have b1 : (s == 1) = false := by simpa using h1
  have b2 : (s == 2) = false := by simpa using h2
  have b3 : (s == 3) = false := by simpa using h3
  have b4 : (s == 4) = false := by simpa using h4
  have b5 : (s == 5) = false := by simpa using h5
  have b6 : (s == 6) = false := by simpa using h6
  have b7 : (s == 7) = false := by simpa using h7
  have b8 : (s == 8) = false := by simpa using h8
  have b9 : (s == 9) = false := by simpa using h9
  have b10 : (s == 10) = false := by simpa using h10
  have b11 : (s == 11) = false := by simpa using h11
  have b12 : (s == 12) = false := by simpa using h12
  have b13 : (s == 13) = false := by simpa using h13
  have b14 : (s == 14) = false := by simpa using h14
  have b16 : (s == 16) = false := by simpa using h16
  clear h
  go_enter Tryz.func99, Tryz.ntmps99
  go_wp2
  go_ret
  exact ⟨rfl, rfl⟩
theorem info_part : (Tryz.prog.info? 185).map (fun i => (i.zero, i.size, i.bytes)) = some (some (.agg #[.int .i64 0, .int .i64 0, .nilFunc, .nilFunc, .bool false]), 5, 40) := by kernel_rfl
theorem cell_new_ (w : World) (c : Array Value) (t : TypeId) (j : Nat) : (w.alloc (.cells c t (0, 0))).cell? ((⟨w.heap.size, 0, none⟩ : Addr).add j) = c[j]? := by
  have h := cd_last w (.cells c t (0, 0))
  cases j with
  | zero => exact blk_cell h 0
  | succ j =>
    have e : ((⟨w.heap.size, 0, none⟩ : Addr).add (j + 1)) = ⟨w.heap.size, j + 1, none⟩ := by simp [Addr.add]
    rw [e]
    exact blk_cell h (j + 1)
theorem own_new_ {w w1 : World} {c : Array Value} {e : TypeId} {size n : Nat} {g : Nat} (hg : w1.heap[g]? = some (.cells c e (0, 0))) (hc : c.size = n * size) (hn : n ≤ maxLen) : w1.ownsRow g e size (.slice (some ⟨g, 0, none⟩) n n) n c.toList :=
  ⟨by simpa using hc, .inr ⟨g, n, c, rfl, Nat.le_refl _, hg, Nat.le_refl _, hn, hc, by rw [List.take_of_length_le (by simp [hc])]⟩⟩
theorem own_some_ {w : World} {base : Nat} {e : TypeId} {size n : Nat} {v : Value} {xs : List Value} (h : w.ownsRow base e size v n xs) (hn : 0 < n) :
    ∃ g cap cur, v = .slice (some ⟨g, 0, none⟩) n cap ∧ base ≤ g ∧ w.heap[g]? = some (.cells cur e (0, 0)) ∧ n ≤ cap ∧ cur.toList.take (n * size) = xs := by
  rcases h.2 with ⟨_, h0⟩ | ⟨g, cap, cur, rfl, h1, h2, h3, _, _, h4⟩
  · omega
  · exact ⟨g, cap, cur, rfl, h1, h2, h3, h4⟩
theorem partCells_one (p : PD) (q : PF) : ∀ u ∈ PartCells p q, u.oneCell' = true := by
  intro u hu
  simp only [PartCells, List.mem_cons, List.not_mem_nil, or_false] at hu
  rcases hu with rfl | rfl | rfl | rfl | rfl <;> rfl
theorem partCells_one2 (p : PD) (q : PF) (p' : PD) (q' : PF) : ∀ u ∈ PartCells p q ++ PartCells p' q', u.oneCell' = true := by
  intro u hu
  rcases List.mem_append.1 hu with hu | hu
  · exact partCells_one _ _ u hu
  · exact partCells_one _ _ u hu
theorem flat_len : ∀ (ps : List PD) (qs : List PF), ps.length = qs.length → (flatP ps qs).length = 5 * ps.length
  | [], [], _ => rfl
  | p :: ps, q :: qs, h => by
    have := flat_len ps qs (by simpa using h)
    simp only [flatP, List.length_append, this, List.length_cons, PartCells, List.length_nil]; omega
set_option maxHeartbeats 4000000 in
theorem parts_3 (lo : Nat) (w : World) (hlo : lo ≤ w.heap.size) : Calls Tryz.prog 99 #[.int .i64 3] w fun e w' => ∃ w6 R cap cur qs T, e = .returned (.slice (some ⟨R, 0, none⟩) 5 cap) ∧ w6.heap.size ≤ R ∧ 5 ≤ cap ∧ w'.heap[R]? = some (.cells cur 185 (0, 0)) ∧ cur.toList.take 25 = flatP [.mk 0, .mk 1, .mk 2, .d, .n] qs ∧ Oks w6 T lo [.mk 0, .mk 1, .mk 2, .d, .n] qs ∧ ToldIs w6 T 0 0 0 ∧ w.heap.size ≤ T ∧ Below w.heap.size w w6 ∧ Below w6.heap.size w6 w' := by
  obtain ⟨i0, hi, hz0, hz1, hz2⟩ := info_parts info_part
  have HI := aq hi
  have HZ0 := aq hz0
  have HZ1 := aq hz1
  have HZ2 := aq hz2
  clear hi hz0 hz1 hz2
  go_enter Tryz.func99, Tryz.ntmps99
  go_wp2_with fail
  refine (made_masked lo _ hlo).mono ?_
  rintro e wm ⟨w6, T, x0, x1, x2, rfl, hwm, x0_, x1_, x2_, ht, hT, bm⟩
  have hwm_h := aq hwm
  clear hwm
  have x0__h := aq x0_
  clear x0_
  have x1__h := aq x1_
  clear x1_
  have x2__h := aq x2_
  clear x2_
  have ht_h := aq ht
  clear ht
  have bm_h := aq bm
  clear bm
  go_wp2_with fail
  refine (made_d T lo _).mono ?_
  rintro e w1 ⟨q1, rfl, k1, b1⟩
  have k1_ := aq k1
  have b1_ := aq b1
  clear k1 b1
  go_wp2_with fail
  refine (made_n T lo _).mono ?_
  rintro e w2 ⟨q2, rfl, k2, b2⟩
  have k2_ := aq k2
  have b2_ := aq b2
  clear k2 b2
  have hR : w2.heap[w6.heap.size]? = some (.cells (PartCells (.mk 0) x0 ++ PartCells (.mk 1) x1 ++ PartCells (.mk 2) x2).toArray 185 (0, 0)) := by
    have h0 : wm.heap[w6.heap.size]? = some (.cells (PartCells (.mk 0) x0 ++ PartCells (.mk 1) x1 ++ PartCells (.mk 2) x2).toArray 185 (0, 0)) := by rw [← hwm_h.out]; exact cd_last w6 _
    exact (((below_step b1_.out b2_.out)).block _ (Array.getElem?_eq_some_iff.1 h0).1).trans h0
  have hown : ∀ o : Obj, (w2.alloc o).ownsRow w6.heap.size 185 5 (.slice (some ⟨w6.heap.size, 0, none⟩) 3 3) 3 (PartCells (.mk 0) x0 ++ PartCells (.mk 1) x1 ++ PartCells (.mk 2) x2) := fun o => own_new_ (w := w6) (blk_alloc hR o) rfl (by decide)
  have hlt0 : w6.heap.size ≤ w2.heap.size := Nat.le_of_lt (Array.getElem?_eq_some_iff.1 hR).1
  have hlt : ∀ o : Obj, w6.heap.size ≤ (w2.alloc o).heap.size := fun o => by simp; omega
  clear hlt0
  have hb6 : Below w6.heap.size w6 w2 := below_step (by rw [← hwm_h.out]; exact below_alloc (Below.refl _ _) _) ((below_step b1_.out b2_.out))
  have HR := aq hR
  have HOWN := aq hown
  have HLT := aq hlt
  have HB6 := aq hb6
  clear hR hown hlt hb6
  go_wp2_with (at_builtin; refine wpList_append_own _ rfl (.tmp 19) (.tmp 22) 179 rfl w6.heap.size 185 i0 _ 5 40 Tryz.underlying179 HI.out HZ0.out HZ1.out HZ2.out rfl (by decide) _ 3 (PartCells (.mk 0) x0 ++ PartCells (.mk 1) x1 ++ PartCells (.mk 2) x2) rfl (HOWN.out _) ⟨w2.heap.size, 0, none⟩ 2 2 (PartCells .d q1 ++ PartCells .n q2) rfl rfl ?n1 ?n2 ?n3 ?n4 ?n5 ?_; (case n1 => exact fun j u hu => (cell_new_ _ _ _ j).trans ((List.getElem?_toArray ..).trans hu)); (case n2 => exact partCells_one2 _ _ _ _); (case n3 => unfold maxLen; omega); (case n4 => omega); (case n5 => exact HLT.out _); intro v1 w9 ho hg _; have HO := aq ho; have HG := aq hg; clear ho hg)
  have HB9 := (below_alloc HB6.out _).grown HG.out (HLT.out _) (own_base (HOWN.out (.cells #[] 0 (0, 0))))
  obtain ⟨R, cap, cur, rfl, ho1⟩ := own_some_ HO.out (by decide)
  go_ret
  exact ⟨w6, R, cap, cur, [x0, x1, x2, q1, q2], T, rfl, ho1.1, ho1.2.2.1, ho1.2.1, ho1.2.2.2, ⟨x0__h.out, x1__h.out, x2__h.out, ⟨k1_.out.get, k1_.out.put⟩, ⟨k2_.out.get, k2_.out.put⟩, trivial⟩, ht_h.out, hT, bm_h.out, HB9⟩
set_option maxHeartbeats 4000000 in
theorem parts_10 (T : Nat) (lo : Nat) (w : World) (hlo : lo ≤ w.heap.size) : Calls Tryz.prog 99 #[.int .i64 10] w fun e w' => ∃ w6 R cap cur qs, e = .returned (.slice (some ⟨R, 0, none⟩) 3 cap) ∧ w6.heap.size ≤ R ∧ 3 ≤ cap ∧ w'.heap[R]? = some (.cells cur 185 (0, 0)) ∧ cur.toList.take 15 = flatP [.lo, .hi, .d] qs ∧ Oks w6 T lo [.lo, .hi, .d] qs ∧ Below w.heap.size w w6 ∧ Below w6.heap.size w6 w' := by
  obtain ⟨i0, hi, hz0, hz1, hz2⟩ := info_parts info_part
  have HI := aq hi
  have HZ0 := aq hz0
  have HZ1 := aq hz1
  have HZ2 := aq hz2
  clear hi hz0 hz1 hz2
  go_enter Tryz.func99, Tryz.ntmps99
  go_wp2_with fail
  refine (made_page T lo _).mono ?_
  rintro e wm ⟨w6, x0, x1, rfl, hwm, x0_, x1_, bm⟩
  have hwm_h := aq hwm
  clear hwm
  have x0__h := aq x0_
  clear x0_
  have x1__h := aq x1_
  clear x1_
  have bm_h := aq bm
  clear bm
  go_wp2_with fail
  refine (made_d T lo _).mono ?_
  rintro e w1 ⟨q1, rfl, k1, b1⟩
  have k1_ := aq k1
  have b1_ := aq b1
  clear k1 b1
  have hR : w1.heap[w6.heap.size]? = some (.cells (PartCells (.lo) x0 ++ PartCells (.hi) x1).toArray 185 (0, 0)) := by
    have h0 : wm.heap[w6.heap.size]? = some (.cells (PartCells (.lo) x0 ++ PartCells (.hi) x1).toArray 185 (0, 0)) := by rw [← hwm_h.out]; exact cd_last w6 _
    exact ((b1_.out).block _ (Array.getElem?_eq_some_iff.1 h0).1).trans h0
  have hown : ∀ o : Obj, (w1.alloc o).ownsRow w6.heap.size 185 5 (.slice (some ⟨w6.heap.size, 0, none⟩) 2 2) 2 (PartCells (.lo) x0 ++ PartCells (.hi) x1) := fun o => own_new_ (w := w6) (blk_alloc hR o) rfl (by decide)
  have hlt0 : w6.heap.size ≤ w1.heap.size := Nat.le_of_lt (Array.getElem?_eq_some_iff.1 hR).1
  have hlt : ∀ o : Obj, w6.heap.size ≤ (w1.alloc o).heap.size := fun o => by simp; omega
  clear hlt0
  have hb6 : Below w6.heap.size w6 w1 := below_step (by rw [← hwm_h.out]; exact below_alloc (Below.refl _ _) _) (b1_.out)
  have HR := aq hR
  have HOWN := aq hown
  have HLT := aq hlt
  have HB6 := aq hb6
  clear hR hown hlt hb6
  go_wp2_with (at_builtin; refine wpList_append_own _ rfl (.tmp 59) (.tmp 61) 179 rfl w6.heap.size 185 i0 _ 5 40 Tryz.underlying179 HI.out HZ0.out HZ1.out HZ2.out rfl (by decide) _ 2 (PartCells (.lo) x0 ++ PartCells (.hi) x1) rfl (HOWN.out _) ⟨w1.heap.size, 0, none⟩ 1 1 (PartCells .d q1) rfl rfl ?n1 ?n2 ?n3 ?n4 ?n5 ?_; (case n1 => exact fun j u hu => (cell_new_ _ _ _ j).trans ((List.getElem?_toArray ..).trans hu)); (case n2 => exact partCells_one _ _); (case n3 => unfold maxLen; omega); (case n4 => omega); (case n5 => exact HLT.out _); intro v1 w9 ho hg _; have HO := aq ho; have HG := aq hg; clear ho hg)
  have HB9 := (below_alloc HB6.out _).grown HG.out (HLT.out _) (own_base (HOWN.out (.cells #[] 0 (0, 0))))
  obtain ⟨R, cap, cur, rfl, ho1⟩ := own_some_ HO.out (by decide)
  go_ret
  exact ⟨w6, R, cap, cur, [x0, x1, q1], rfl, ho1.1, ho1.2.2.1, ho1.2.1, ho1.2.2.2, ⟨x0__h.out, x1__h.out, ⟨k1_.out.get, k1_.out.put⟩, trivial⟩, bm_h.out, HB9⟩
def PD.isCap : PD → Bool
  | .imm _ _ _ _ => true | .amt _ _ _ => true | _ => false
structure PartsRes (w w' : World) (lo : Nat) (s : Int) (A : Option Addr) (T R cap : Nat) : Prop where
  row : PartsAt w' T lo R 0 (partsOf s)
  addr : partsOf s ≠ [] → A = some ⟨R, 0, none⟩
  lR : w.heap.size ≤ R
  lT : w.heap.size ≤ T
  ne : T ≠ R
  told : s = 3 → ToldIs w' T 0 0 0
  cap : (partsOf s).length ≤ cap
  below : Below w.heap.size w w'
  far : ∀ p, p ∈ partsOf s → p.isCap = true → w'.heap.size ≤ T
theorem ite_len {c : Prop} [Decidable c] {a b : List PD} (ha : a.length ≤ 5) (hb : b.length ≤ 5) : (if c then a else b).length ≤ 5 := by
  by_cases h : c
  · rw [if_pos h]; exact ha
  · rw [if_neg h]; exact hb
theorem parts_len (s : Int) : (partsOf s).length ≤ 5 := by
  unfold partsOf
  repeat (refine ite_len (by decide) ?_)
  decide
theorem oks_len {w : World} {T lo : Nat} : ∀ {ps : List PD} {qs : List PF}, Oks w T lo ps qs → ps.length = qs.length
  | [], [], _ => rfl
  | _ :: _, _ :: _, ⟨_, hs⟩ => by simp [oks_len hs]
theorem parts_res1 {w w6 : World} {lo n : Nat} {s : Int} {qs : List PF} {T : Nat} (hT : T = w6.heap.size + 1) (hn : (partsOf s).length = n) (h3 : s ≠ 3) (hk : Oks w6 T lo (partsOf s) qs) (hb : Below w.heap.size w w6) :
    PartsRes w (w6.alloc (.cells (flatP (partsOf s) qs).toArray 185 (0, 0))) lo s (some ⟨w6.heap.size, 0, none⟩) T w6.heap.size n where
  row := PartsAt.of (cd_last w6 _) (hk.below (below_alloc (Below.refl _ _) _)) fun j hj => by rw [Nat.zero_add]; exact List.getElem?_toArray ..
  addr := fun _ => rfl
  lR := hb.size
  lT := by have := hb.size; omega
  ne := by omega
  told := fun h => absurd h h3
  cap := by omega
  below := below_alloc hb _
  far := fun _ _ _ => by subst hT; simp
theorem parts_res2 {w w6 w' : World} {lo R cap : Nat} {s : Int} {qs : List PF} {T : Nat} {cur : Array Value} (hTR : T ≠ R) (hT : w.heap.size ≤ T) (ht : s = 3 → ToldIs w6 T 0 0 0) (hR : w6.heap.size ≤ R) (hc : (partsOf s).length ≤ cap) (hg : w'.heap[R]? = some (.cells cur 185 (0, 0)))
    (hcur : cur.toList.take (5 * (partsOf s).length) = flatP (partsOf s) qs) (hk : Oks w6 T lo (partsOf s) qs) (hb : Below w.heap.size w w6) (hb6 : Below w6.heap.size w6 w') (hno : (partsOf s).all (fun p => !p.isCap) = true) : PartsRes w w' lo s (some ⟨R, 0, none⟩) T R cap where
  row := PartsAt.of hg (hk.below hb6) fun j hj => by
    rw [Nat.zero_add]
    exact take_get_ hcur j (by rw [flat_len _ _ (oks_len hk)] at hj; exact hj)
  addr := fun _ => rfl
  lR := Nat.le_trans hb.size hR
  lT := hT
  ne := hTR
  told := fun h => (ht h).below hb6
  cap := hc
  below := below_step hb hb6
  far := fun p hp h => by have := List.all_eq_true.1 hno p hp; rw [h] at this; cases this
theorem code_parts.calls (s : Int) (lo : Nat) (w : World) (hlo : lo ≤ w.heap.size) : Calls Tryz.prog 99 #[.int .i64 s] w fun e w' => ∃ A T R cap, e = .returned (.slice A (partsOf s).length cap) ∧ PartsRes w w' lo s A T R cap := by
  by_cases h3 : s = 3
  · subst h3
    refine (parts_3 lo w hlo).mono ?_
    rintro e w' ⟨w6, R, cap, cur, qs, T, rfl, hR, hc, hg, hcur, hk, ht, hT, hb, hb6⟩
    have hlt : T < w6.heap.size := (Array.getElem?_eq_some_iff.1 ht).1
    exact ⟨_, T, R, cap, rfl, parts_res2 (by omega) hT (fun _ => ht) hR hc hg hcur hk hb hb6 (by decide)⟩
  by_cases h10 : s = 10
  · subst h10
    have hp := fun T => parts_10 T lo w hlo
    refine (parts_10 0 lo w hlo).mono ?_
    rintro e w' ⟨w6, R, cap, cur, qs, rfl, hR, hc, hg, hcur, hk, hb, hb6⟩
    have hk' : Oks w6 (R + 1) lo (partsOf 10) qs := by
      match qs, hk with
      | [_, _, _], ⟨h1, h2, h3, _⟩ => exact ⟨⟨h1.get, h1.put⟩, ⟨h2.get, h2.put⟩, ⟨h3.get, h3.put⟩, trivial⟩
    exact ⟨_, R + 1, R, cap, rfl, parts_res2 (by omega) (by have := hb.size; omega) (fun h => by cases h) hR hc hg hcur hk' hb hb6 (by decide)⟩
  by_cases h1 : s = 1
  · subst h1
    refine (parts_1 0 lo w hlo).mono ?_
    rintro e w' ⟨w6, qs, rfl, rfl, hk, hb⟩
    have hk' : Oks w6 (w6.heap.size + 1) lo (partsOf 1) qs := by
      match qs, hk with
      | [_, _, _], ⟨g0, g1, g2, _⟩ => exact ⟨⟨g0.get, g0.put⟩, ⟨g1.get, g1.put⟩, ⟨g2.get, g2.put⟩, trivial⟩
    exact ⟨_, _, _, _, rfl, parts_res1 rfl rfl (by decide) hk' hb⟩
  by_cases h2 : s = 2
  · subst h2
    refine (parts_2 0 lo w hlo).mono ?_
    rintro e w' ⟨w6, qs, rfl, rfl, hk, hb⟩
    have hk' : Oks w6 (w6.heap.size + 1) lo (partsOf 2) qs := by
      match qs, hk with
      | [_, _, _, _], ⟨g0, g1, g2, g3, _⟩ => exact ⟨⟨g0.get, g0.put⟩, ⟨g1.get, g1.put⟩, ⟨g2.get, g2.put⟩, ⟨g3.get, g3.put⟩, trivial⟩
    exact ⟨_, _, _, _, rfl, parts_res1 rfl rfl (by decide) hk' hb⟩
  by_cases h4 : s = 4
  · subst h4
    refine (parts_4 0 lo w hlo).mono ?_
    rintro e w' ⟨w6, qs, rfl, rfl, hk, hb⟩
    have hk' : Oks w6 (w6.heap.size + 1) lo (partsOf 4) qs := by
      match qs, hk with
      | [_, _, _, _, _], ⟨g0, g1, g2, g3, g4, _⟩ => exact ⟨⟨g0.get, g0.put⟩, ⟨g1.get, g1.put⟩, ⟨g2.get, g2.put⟩, ⟨g3.get, g3.put⟩, ⟨g4.get, g4.put⟩, trivial⟩
    exact ⟨_, _, _, _, rfl, parts_res1 rfl rfl (by decide) hk' hb⟩
  by_cases h5 : s = 5
  · subst h5
    refine (parts_5 0 lo w hlo).mono ?_
    rintro e w' ⟨w6, qs, rfl, rfl, hk, hb⟩
    have hk' : Oks w6 (w6.heap.size + 1) lo (partsOf 5) qs := by
      match qs, hk with
      | [_, _, _, _, _], ⟨g0, g1, g2, g3, g4, _⟩ => exact ⟨⟨g0.get, g0.put⟩, ⟨g1.get, g1.put⟩, ⟨g2.get, g2.put⟩, ⟨g3.get, g3.put⟩, ⟨g4.get, g4.put⟩, trivial⟩
    exact ⟨_, _, _, _, rfl, parts_res1 rfl rfl (by decide) hk' hb⟩
  by_cases h6 : s = 6
  · subst h6
    refine (parts_6 0 lo w hlo).mono ?_
    rintro e w' ⟨w6, qs, rfl, rfl, hk, hb⟩
    have hk' : Oks w6 (w6.heap.size + 1) lo (partsOf 6) qs := by
      match qs, hk with
      | [_, _, _, _], ⟨g0, g1, g2, g3, _⟩ => exact ⟨⟨g0.get, g0.put⟩, ⟨g1.get, g1.put⟩, ⟨g2.get, g2.put⟩, ⟨g3.get, g3.put⟩, trivial⟩
    exact ⟨_, _, _, _, rfl, parts_res1 rfl rfl (by decide) hk' hb⟩
  by_cases h7 : s = 7
  · subst h7
    refine (parts_7 0 lo w hlo).mono ?_
    rintro e w' ⟨w6, qs, rfl, rfl, hk, hb⟩
    have hk' : Oks w6 (w6.heap.size + 1) lo (partsOf 7) qs := by
      match qs, hk with
      | [_, _, _], ⟨g0, g1, g2, _⟩ => exact ⟨⟨g0.get, g0.put⟩, ⟨g1.get, g1.put⟩, ⟨g2.get, g2.put⟩, trivial⟩
    exact ⟨_, _, _, _, rfl, parts_res1 rfl rfl (by decide) hk' hb⟩
  by_cases h8 : s = 8
  · subst h8
    refine (parts_8 0 lo w hlo).mono ?_
    rintro e w' ⟨w6, qs, rfl, rfl, hk, hb⟩
    have hk' : Oks w6 (w6.heap.size + 1) lo (partsOf 8) qs := by
      match qs, hk with
      | [_, _, _], ⟨g0, g1, g2, _⟩ => exact ⟨⟨g0.get, g0.put⟩, ⟨g1.get, g1.put⟩, ⟨g2.get, g2.put⟩, trivial⟩
    exact ⟨_, _, _, _, rfl, parts_res1 rfl rfl (by decide) hk' hb⟩
  by_cases h9 : s = 9
  · subst h9
    refine (parts_9 0 lo w hlo).mono ?_
    rintro e w' ⟨w6, qs, rfl, rfl, hk, hb⟩
    have hk' : Oks w6 (w6.heap.size + 1) lo (partsOf 9) qs := by
      match qs, hk with
      | [_, _], ⟨g0, g1, _⟩ => exact ⟨⟨g0.get, g0.put⟩, ⟨g1.get, g1.put⟩, trivial⟩
    exact ⟨_, _, _, _, rfl, parts_res1 rfl rfl (by decide) hk' hb⟩
  by_cases h11 : s = 11
  · subst h11
    refine (parts_11 0 lo w hlo).mono ?_
    rintro e w' ⟨w6, qs, rfl, rfl, hk, hb⟩
    have hk' : Oks w6 (w6.heap.size + 1) lo (partsOf 11) qs := by
      match qs, hk with
      | [_], ⟨g0, _⟩ => exact ⟨⟨g0.get, g0.put⟩, trivial⟩
    exact ⟨_, _, _, _, rfl, parts_res1 rfl rfl (by decide) hk' hb⟩
  by_cases h12 : s = 12
  · subst h12
    refine (parts_12 0 lo w hlo).mono ?_
    rintro e w' ⟨w6, qs, rfl, rfl, hk, hb⟩
    have hk' : Oks w6 (w6.heap.size + 1) lo (partsOf 12) qs := by
      match qs, hk with
      | [_, _], ⟨g0, g1, _⟩ => exact ⟨⟨g0.get, g0.put⟩, ⟨g1.get, g1.put⟩, trivial⟩
    exact ⟨_, _, _, _, rfl, parts_res1 rfl rfl (by decide) hk' hb⟩
  by_cases h13 : s = 13
  · subst h13
    refine (parts_13 0 lo w hlo).mono ?_
    rintro e w' ⟨w6, qs, rfl, rfl, hk, hb⟩
    have hk' : Oks w6 (w6.heap.size + 1) lo (partsOf 13) qs := by
      match qs, hk with
      | [_], ⟨g0, _⟩ => exact ⟨⟨g0.get, g0.put⟩, trivial⟩
    exact ⟨_, _, _, _, rfl, parts_res1 rfl rfl (by decide) hk' hb⟩
  by_cases h14 : s = 14
  · subst h14
    refine (parts_14 0 lo w hlo).mono ?_
    rintro e w' ⟨w6, qs, rfl, rfl, hk, hb⟩
    have hk' : Oks w6 (w6.heap.size + 1) lo (partsOf 14) qs := by
      match qs, hk with
      | [_], ⟨g0, _⟩ => exact ⟨⟨g0.get, g0.put⟩, trivial⟩
    exact ⟨_, _, _, _, rfl, parts_res1 rfl rfl (by decide) hk' hb⟩
  by_cases h16 : s = 16
  · subst h16
    refine (parts_16 0 lo w hlo).mono ?_
    rintro e w' ⟨w6, qs, rfl, rfl, hk, hb⟩
    have hk' : Oks w6 (w6.heap.size + 1) lo (partsOf 16) qs := by
      match qs, hk with
      | [_, _, _, _], ⟨g0, g1, g2, g3, _⟩ => exact ⟨⟨g0.get, g0.put⟩, ⟨g1.get, g1.put⟩, ⟨g2.get, g2.put⟩, ⟨g3.get, g3.put⟩, trivial⟩
    exact ⟨_, _, _, _, rfl, parts_res1 rfl rfl (by decide) hk' hb⟩
  have hn : partsOf s = [] := by
    unfold partsOf
    rw [if_neg h1, if_neg h2, if_neg h3, if_neg h4, if_neg h5, if_neg h6, if_neg h7, if_neg h8, if_neg h9, if_neg h10, if_neg h11, if_neg h12, if_neg h13, if_neg h14, if_neg h16]
  refine (parts_none s w hn).mono ?_
  rintro e w' ⟨rfl, rfl⟩
  refine ⟨none, w.heap.size + 1, w.heap.size, 0, by rw [hn]; rfl, ⟨by rw [hn]; trivial, fun h => absurd hn h, Nat.le_refl _, by omega, by omega, fun h => absurd h h3, by rw [hn]; simp, Below.refl _ _, by rw [hn]; intro p hp; cases hp⟩⟩
def baseL : List Int := [0, 3531603968, 2457862144, 4068474880, 2432696320, 3506438144, 2969567232, 4043309056, 2449473536, 2986344448, 3523215360, 4060086272, 2332033024, 3405774848, 2868903936, 3942645760, 2315255808, 2852126720, 3388997632, 3925868544, 2600468480, 2600501248, 4181721088, 4177526784, 960495616, 956301312, 1476395008, 268435456, 2415919104, 335544320, 2483027968, 1409286144, 3019898880, 3036676096, 3592355840, 3594452992, 3596550144, 3556769793, 3573751839, 2592079872]
def baseA : Array Value := #[.int .u32 0, .int .u32 3531603968, .int .u32 2457862144, .int .u32 4068474880, .int .u32 2432696320, .int .u32 3506438144, .int .u32 2969567232, .int .u32 4043309056, .int .u32 2449473536, .int .u32 2986344448, .int .u32 3523215360, .int .u32 4060086272, .int .u32 2332033024, .int .u32 3405774848, .int .u32 2868903936, .int .u32 3942645760, .int .u32 2315255808, .int .u32 2852126720, .int .u32 3388997632, .int .u32 3925868544, .int .u32 2600468480, .int .u32 2600501248, .int .u32 4181721088, .int .u32 4177526784, .int .u32 960495616, .int .u32 956301312, .int .u32 1476395008, .int .u32 268435456, .int .u32 2415919104, .int .u32 335544320, .int .u32 2483027968, .int .u32 1409286144, .int .u32 3019898880, .int .u32 3036676096, .int .u32 3592355840, .int .u32 3594452992, .int .u32 3596550144, .int .u32 3556769793, .int .u32 3573751839, .int .u32 2592079872]
def baseZ : Array Value := #[.int .u32 0, .int .u32 0, .int .u32 0, .int .u32 0, .int .u32 0, .int .u32 0, .int .u32 0, .int .u32 0, .int .u32 0, .int .u32 0, .int .u32 0, .int .u32 0, .int .u32 0, .int .u32 0, .int .u32 0, .int .u32 0, .int .u32 0, .int .u32 0, .int .u32 0, .int .u32 0, .int .u32 0, .int .u32 0, .int .u32 0, .int .u32 0, .int .u32 0, .int .u32 0, .int .u32 0, .int .u32 0, .int .u32 0, .int .u32 0, .int .u32 0, .int .u32 0, .int .u32 0, .int .u32 0, .int .u32 0, .int .u32 0, .int .u32 0, .int .u32 0, .int .u32 0, .int .u32 0]
theorem baseZ_info : (Tryz.prog.info? 227).map (fun i => (i.zero, i.size)) = some (some (.agg baseZ), 40) := by kernel_rfl
theorem baseA_one : baseA.all (·.oneCell') = true := by decide +kernel
theorem baseA_size : baseA.size = 40 := rfl
theorem baseA_build (W : World) : (Instr.build 227 #[(1, .int .u32 3531603968), (2, .int .u32 2457862144), (3, .int .u32 4068474880), (4, .int .u32 2432696320), (5, .int .u32 3506438144), (6, .int .u32 2969567232), (7, .int .u32 4043309056), (8, .int .u32 2449473536), (9, .int .u32 2986344448), (10, .int .u32 3523215360), (11, .int .u32 4060086272), (12, .int .u32 2332033024), (13, .int .u32 3405774848), (14, .int .u32 2868903936), (15, .int .u32 3942645760), (16, .int .u32 2315255808), (17, .int .u32 2852126720), (18, .int .u32 3388997632), (19, .int .u32 3925868544), (20, .int .u32 2600468480), (21, .int .u32 2600501248), (22, .int .u32 4181721088), (23, .int .u32 4177526784), (24, .int .u32 960495616), (25, .int .u32 956301312), (26, .int .u32 1476395008), (27, .int .u32 268435456), (28, .int .u32 2415919104), (29, .int .u32 335544320), (30, .int .u32 2483027968), (31, .int .u32 1409286144), (32, .int .u32 3019898880), (33, .int .u32 3036676096), (34, .int .u32 3592355840), (35, .int .u32 3594452992), (36, .int .u32 3596550144), (37, .int .u32 3556769793), (38, .int .u32 3573751839), (39, .int .u32 2592079872)]).run Tryz.prog W = .ok (.agg baseA) W := run_build W _ _ _ (by kernel_rfl)
attribute [-go_sem] Instr.build Instr.fill in
set_option maxHeartbeats 12800000 in
set_option maxRecDepth 100000 in
theorem code_bases.calls (w : World) : Calls Tryz.prog 143 #[] w fun e w' => e = .returned (.agg baseA) ∧ Below w.heap.size w w' := by
  obtain ⟨hz, hs⟩ := zero_of_info baseZ_info
  have hst := run_storeCells_new (P := Tryz.prog) w 227 baseZ baseA hs rfl baseA_one
  have hld := run_loadCellsFrom_new (P := Tryz.prog) w 227 baseA 40 rfl
  have hsz := baseA_size
  have hba := baseA_build
  go_enter Tryz.func143, Tryz.ntmps143
  go_wp2
  clear hba
  refine bodyPost_ret (v := .agg baseA) (results_cell_ rfl _ _ rfl (heap_last_ w _) Tryz.underlying227 rfl hs) rfl ⟨rfl, (Below.refl _ _).alloc (Nat.le_refl _) _⟩
theorem base_index : ∀ (i : Nat) (_ : i < 40) (W : World), (Instr.index 227 (.agg baseA) (.int .i64 (i : Int))).run Tryz.prog W = .ok (.int .u32 (baseL.getD i 0)) W
  | 0, _, _ => by kernel_rfl
  | 1, _, _ => by kernel_rfl
  | 2, _, _ => by kernel_rfl
  | 3, _, _ => by kernel_rfl
  | 4, _, _ => by kernel_rfl
  | 5, _, _ => by kernel_rfl
  | 6, _, _ => by kernel_rfl
  | 7, _, _ => by kernel_rfl
  | 8, _, _ => by kernel_rfl
  | 9, _, _ => by kernel_rfl
  | 10, _, _ => by kernel_rfl
  | 11, _, _ => by kernel_rfl
  | 12, _, _ => by kernel_rfl
  | 13, _, _ => by kernel_rfl
  | 14, _, _ => by kernel_rfl
  | 15, _, _ => by kernel_rfl
  | 16, _, _ => by kernel_rfl
  | 17, _, _ => by kernel_rfl
  | 18, _, _ => by kernel_rfl
  | 19, _, _ => by kernel_rfl
  | 20, _, _ => by kernel_rfl
  | 21, _, _ => by kernel_rfl
  | 22, _, _ => by kernel_rfl
  | 23, _, _ => by kernel_rfl
  | 24, _, _ => by kernel_rfl
  | 25, _, _ => by kernel_rfl
  | 26, _, _ => by kernel_rfl
  | 27, _, _ => by kernel_rfl
  | 28, _, _ => by kernel_rfl
  | 29, _, _ => by kernel_rfl
  | 30, _, _ => by kernel_rfl
  | 31, _, _ => by kernel_rfl
  | 32, _, _ => by kernel_rfl
  | 33, _, _ => by kernel_rfl
  | 34, _, _ => by kernel_rfl
  | 35, _, _ => by kernel_rfl
  | 36, _, _ => by kernel_rfl
  | 37, _, _ => by kernel_rfl
  | 38, _, _ => by kernel_rfl
  | 39, _, _ => by kernel_rfl
  | n + 40, h, _ => absurd h (by omega)
theorem info_fld : (Tryz.prog.info? 231).map (fun i => (i.zero, i.size, i.bytes)) = some (some (.agg #[.int .i64 0, .int .i64 0, .int .u32 0]), 3, 24) := by kernel_rfl
def onesL (ps : List PD) : List S231 := ps.map fun p => ⟨p.at_, p.n_, IntKind.u32.wrap (IntKind.u32.wrap (2 ^ p.n_.toNat) - 1)⟩
def opGo (k : Nat) (w : Int) : Nat → Nat → Option Int
  | 0, _ => some 0
  | d + 1, i => (inst_Shape.f i).bind fun s => if i = 0 then opGo k w d (i + 1) else (code_over.f k 0 (onesL (partsOf s))).bind fun m => if Go.bits .andNot .u32 w m = baseL.getD i 0 then some i else opGo k w d (i + 1)
def code_Opcode.f (k : Nat) (w : Int) : Option Int := opGo k w 40 0
def okN (l : List PD) : Bool := l.all fun p => decide (0 ≤ p.n_ ∧ p.n_ ≤ 26)
theorem ite_okN {c : Prop} [Decidable c] {a b : List PD} (ha : okN a = true) (hb : okN b = true) : okN (if c then a else b) = true := by
  by_cases h : c
  · rw [if_pos h]; exact ha
  · rw [if_neg h]; exact hb
theorem parts_okN (s : Int) : okN (partsOf s) = true := by
  unfold partsOf
  repeat (refine ite_okN (by decide) ?_)
  decide
theorem parts_n {s : Int} {p : PD} (h : p ∈ partsOf s) : 0 ≤ p.n_ ∧ p.n_ ≤ 26 := of_decide_eq_true (List.all_eq_true.1 (parts_okN s) p h)
set_option maxHeartbeats 16000000 in
set_option maxRecDepth 100000 in
theorem code_Opcode.calls (k : Nat) (a0 r : Int) (w : World) (h : code_Opcode.f k a0 = some r) :
    Calls Tryz.prog 98 #[.int .u32 a0] w fun e w' => e = .returned (.int .i64 r) ∧ Below w.heap.size w w' := by
  have H := aq h
  clear h
  go_enter Tryz.func98, Tryz.ntmps98
  go_wp2_with (go_at_call 143; refine (code_bases.calls _).mono ?_; rintro e w1 ⟨rfl, hb1⟩; have HB1 := aq hb1; clear hb1)
  go_loopg [9] 40 (fun kq v9 wr => ∃ i : Nat, v9 = .int .i64 (i : Int) ∧ i + kq = 40 ∧ Aside0 (opGo k a0 kq i = some r) ∧ Aside0 (Below w.heap.size w wr))
  case atStart => exact ⟨0, rfl, rfl, H, HB1⟩
  case round =>
    clear H
    obtain ⟨i, rfl, hik, HG, HW⟩ := hrel
    cases gk with
    | zero =>
      obtain rfl : i = 40 := by omega
      have hG := HG.out
      injection hG with hG
      subst hG
      go_wp2
      go_ret
      exact ⟨rfl, HW.out⟩
    | succ kq =>
      have hi : i < 40 := by omega
      have HIK := aq hik
      have hG := HG.out
      clear hik HG
      obtain ⟨s, hs, hG⟩ := Option.bind_eq_some_iff.mp hG
      have HS := aq hs
      have HG := aq hG
      clear hs hG
      have hidx := base_index i hi
      obtain ⟨wo, rfl⟩ : ∃ wo : World, wo = wr := ⟨_, rfl⟩
      go_wp2_with (first | (go_at_call 100; refine (inst_Shape.calls _ _ _ HS.out).mono ?_; rintro e w2 ⟨rfl, hb2⟩; have HB2 := aq (below_step HW.out hb2); clear hb2) | (go_at_call 99; refine (code_parts.calls s w.heap.size _ HB2.out.size).mono ?_; rintro e w3 ⟨A, T, R, cap, rfl, hp⟩; have HP := aq hp; have HB3 := aq (below_step HB2.out hp.below); clear hp))
      clear hidx
      have hHP := HP.out
      have HN := aq hHP.addr
      have HPN := aq (fun p (hp : p ∈ partsOf s) => parts_n hp)
      have HL5 := aq (parts_len s)
      clear hHP
      have HROW := aq HP.out.row
      clear HP
      generalize partsOf s = pds at *
      go_loopg [5, 17] pds.length (fun kj v5 v17 wr => ∃ (j : Nat) (xs : List S231), v17 = .int .i64 (j : Int) ∧ j + kj = pds.length ∧ Aside0 (xs = onesL (pds.take j)) ∧ Aside0 (Kd.R k231 231 wr w3.heap.size (fun _ => True) v5 xs) ∧ Aside0 (Below w3.heap.size w3 wr))
      case atStart => exact ⟨0, [], rfl, by omega, ⟨rfl⟩, ⟨Kd.R_nil _ _ _ _ _⟩, ⟨Below.refl _ _⟩⟩
      case round =>
        obtain ⟨j, xs, rfl, hjk, HX, HR, HWi⟩ := hrel
        cases gk with
        | zero =>
          obtain rfl : j = pds.length := by omega
          have hX := HX.out
          rw [List.take_length] at hX
          subst hX
          obtain ⟨Ar, cr, rfl, hlr, hCr⟩ := Kd.R_reads HR.out
          have HBW := aq (below_step HB3.out HWi.out)
          have hG := HG.out
          by_cases h0 : i = 0
          · rw [if_pos h0] at hG
            have h00 : ¬ (0 : Int) < (i : Int) := by omega
            have HG2 := aq hG
            clear hG HG
            go_wp2
            go_roundg kq
            case measure => omega
            case rel => exact ⟨i + 1, by (first | go_num | (subst h0; rfl)), by have := HIK.out; omega, HG2, HBW⟩
          · rw [if_neg h0] at hG
            obtain ⟨m, hm, hG⟩ := Option.bind_eq_some_iff.mp hG
            have HM := aq hm
            have h00 : (0 : Int) < (i : Int) := by omega
            by_cases heq : Go.bits .andNot .u32 a0 m = baseL.getD i 0
            · rw [if_pos heq] at hG
              injection hG with hG
              subst hG
              have heq1 : (Go.bits .andNot .u32 a0 m == baseL[i]?.getD 0) = true := by simpa using heq
              clear heq hm HG
              go_wp2_with (go_at_call 144; refine (code_over.calls k _ _ _ _ _ _ hCr hlr HM.out).mono ?_; rintro e w5 ⟨rfl, hb5⟩; have HB5 := aq (below_step HBW.out hb5); clear hb5)
              go_ret
              exact ⟨rfl, HB5.out⟩
            · rw [if_neg heq] at hG
              have HG2 := aq hG
              have heq1 : (Go.bits .andNot .u32 a0 m == baseL[i]?.getD 0) = false := by simpa using heq
              clear heq hG hm HG
              go_wp2_with (go_at_call 144; refine (code_over.calls k _ _ _ _ _ _ hCr hlr HM.out).mono ?_; rintro e w5 ⟨rfl, hb5⟩; have HB5 := aq (below_step HBW.out hb5); clear hb5)
              go_roundg kq
              case measure => omega
              case rel => exact ⟨i + 1, by go_num, by have := HIK.out; omega, HG2, HB5⟩
        | succ kj =>
          have hj : j < pds.length := by omega
          have HJK := aq hjk
          obtain ⟨p, hp⟩ : ∃ p, pds[j]? = some p := ⟨pds[j], List.getElem?_eq_getElem hj⟩
          have hA := HN.out (by intro e; rw [e] at hj; simp at hj)
          subst hA
          obtain ⟨q, hq⟩ := HROW.out.get hp
          have hq := hq.below HWi.out
          rw [show 0 + 5 * j = j * 5 by omega] at hq
          obtain ⟨c0, c1, c2, c3, c4, hok⟩ := hq
          have hn := HPN.out p (List.mem_of_getElem? hp)
          obtain ⟨hn0, hn1⟩ := hn
          have HPJ := aq hp
          clear hp hok hjk
          obtain ⟨Ao, co, rfl⟩ := Kd.R_slice HR.out
          have hx5 : xs.length < 5 := by rw [HX.out]; unfold onesL; rw [List.length_map, List.length_take]; have := HL5.out; omega
          have HX5 := aq hx5
          clear hx5
          go_wp2
          have hB5 := below_alloc HWi.out (.cells #[.int .i64 p.at_, .int .i64 p.n_, .func (.func q.gf) #[] q.gc, .func (.func q.pf) #[] q.pc, .bool p.sg_] 185 (0, 0))
          have hR5 := Kd.R_alloc HR.out (.cells #[.int .i64 p.at_, .int .i64 p.n_, .func (.func q.gf) #[] q.gc, .func (.func q.pf) #[] q.pc, .bool p.sg_] 185 (0, 0))
          have hlast := cd_last wr (.cells #[.int .i64 p.at_, .int .i64 p.n_, .func (.func q.gf) #[] q.gc, .func (.func q.pf) #[] q.pc, .bool p.sg_] 185 (0, 0))
          generalize wr.alloc (.cells #[.int .i64 p.at_, .int .i64 p.n_, .func (.func q.gf) #[] q.gc, .func (.func q.pf) #[] q.pc, .bool p.sg_] 185 (0, 0)) = w5 at hB5 hR5 hlast ⊢
          obtain ⟨e0, e1, e2, e3, e4⟩ := cells5_ hlast
          have HB5 := aq hB5
          have HR5 := aq hR5
          clear hB5 hR5 hlast c0 c1 c2 c3 c4
          have hB6 := below_drew1 HB5.out
          have hR6 := Kd.R_drew HR5.out
          refine start_ (n := 13) (S := (fun w' => w'.cell? ⟨wr.heap.size, 0, none⟩ = some (.int .i64 p.at_) ∧ w'.cell? ⟨wr.heap.size, 1, none⟩ = some (.int .i64 p.n_))) (ds := [11, 12]) #[false, false, false, false, false, false, false, false, false, false, false, false, false] (by kernel_rfl) rfl rfl ⟨e0, e1⟩ (fun hHeld => ?_)
          generalize w5.drew = w6 at hB6 hR6 hHeld ⊢
          refine pure_ (i := 0) (N := some 21) (v := ?_) (a' := ?_) #[true, false, false, false, false, false, false, false, false, false, false, false, false] rfl rfl (by kernel_rfl) (fun _ _ _ h => h) (Or.inl ⟨by rfl, ?_⟩) ?_ ?_
          rotate_left
          · intro w'
            go_simp
            with_reducible rfl
          rotate_left
          · simp only [Act.put, List.setIfInBounds_toArray, List.set_cons_zero, List.set_cons_succ, i64_w, i32_w]
            rfl
          refine pure_ (i := 1) (N := some 22) (v := ?_) (a' := ?_) #[true, true, false, false, false, false, false, false, false, false, false, false, false] rfl rfl (by kernel_rfl) (fun _ _ _ h => h) (Or.inl ⟨by rfl, ?_⟩) ?_ ?_
          rotate_left
          · intro w'
            go_simp
            with_reducible rfl
          rotate_left
          · simp only [Act.put, List.setIfInBounds_toArray, List.set_cons_zero, List.set_cons_succ, i64_w, i32_w]
            rfl
          refine take_ (i := 2) (N := some 23) (v := ?_) (a' := ?_) #[true, true, true, false, false, false, false, false, false, false, false, false, false] rfl rfl (by kernel_rfl) (fun _ _ _ h => h) (Or.inl ⟨by rfl, ?_⟩) hHeld ?_ ?_
          rotate_left
          · rintro w' ⟨s0, s1⟩
            go_simp
            with_reducible rfl
          rotate_left
          · simp only [Act.put, List.setIfInBounds_toArray, List.set_cons_zero, List.set_cons_succ, i64_w, i32_w]
            rfl
          refine pure_ (i := 3) (N := some 24) (v := ?_) (a' := ?_) #[true, true, true, true, false, false, false, false, false, false, false, false, false] rfl rfl (by kernel_rfl) (fun _ _ _ h => h) (Or.inl ⟨by rfl, ?_⟩) ?_ ?_
          rotate_left
          · intro w'
            go_simp
            with_reducible rfl
          rotate_left
          · simp only [Act.put, List.setIfInBounds_toArray, List.set_cons_zero, List.set_cons_succ, i64_w, i32_w]
            rfl
          refine take_ (i := 4) (N := some 25) (v := ?_) (a' := ?_) #[true, true, true, true, true, false, false, false, false, false, false, false, false] rfl rfl (by kernel_rfl) (fun _ _ _ h => h) (Or.inl ⟨by rfl, ?_⟩) hHeld ?_ ?_
          rotate_left
          · rintro w' ⟨s0, s1⟩
            go_simp
            with_reducible rfl
          rotate_left
          · simp only [Act.put, List.setIfInBounds_toArray, List.set_cons_zero, List.set_cons_succ, i64_w, i32_w]
            rfl
          refine pure_ (i := 5) (N := some 26) (v := ?_) (a' := ?_) #[true, true, true, true, true, true, false, false, false, false, false, false, false] rfl rfl (by kernel_rfl) (fun _ _ _ h => h) (Or.inl ⟨by rfl, ?_⟩) ?_ ?_
          rotate_left
          · intro w'
            go_simp
            with_reducible rfl
          rotate_left
          · simp only [Act.put, List.setIfInBounds_toArray, List.set_cons_zero, List.set_cons_succ, i64_w, i32_w]
            rfl
          refine take_ (i := 6) (N := some 27) (v := ?_) (a' := ?_) #[true, true, true, true, true, true, true, false, false, false, false, false, false] rfl rfl (by kernel_rfl) (fun _ _ _ h => h) (Or.inl ⟨by rfl, ?_⟩) hHeld ?_ ?_
          rotate_left
          · rintro w' ⟨s0, s1⟩
            go_simp
            with_reducible rfl
          rotate_left
          · simp only [Act.put, List.setIfInBounds_toArray, List.set_cons_zero, List.set_cons_succ, i64_w, i32_w]
            rfl
          refine pure_ (i := 7) (N := some 28) (v := ?_) (a' := ?_) #[true, true, true, true, true, true, true, true, false, false, false, false, false] rfl rfl (by kernel_rfl) (fun _ _ _ h => h) (Or.inl ⟨by rfl, ?_⟩) ?_ ?_
          rotate_left
          · intro w'
            go_simp
            with_reducible rfl
          rotate_left
          · simp only [Act.put, List.setIfInBounds_toArray, List.set_cons_zero, List.set_cons_succ, i64_w, i32_w]
            rfl
          refine pure_ (i := 8) (N := some 29) (v := ?_) (a' := ?_) #[true, true, true, true, true, true, true, true, true, false, false, false, false] rfl rfl (by kernel_rfl) (fun _ _ _ h => h) (Or.inl ⟨by rfl, ?_⟩) ?_ ?_
          rotate_left
          · intro w'
            go_simp
            with_reducible rfl
          rotate_left
          · simp only [Act.put, List.setIfInBounds_toArray, List.set_cons_zero, List.set_cons_succ, i64_w, i32_w]
            rfl
          refine pure_ (i := 9) (N := some 30) (v := ?_) (a' := ?_) #[true, true, true, true, true, true, true, true, true, true, false, false, false] rfl rfl (by kernel_rfl) (fun _ _ _ h => h) (Or.inl ⟨by rfl, ?_⟩) ?_ ?_
          rotate_left
          · intro w'
            go_simp
            with_reducible rfl
          rotate_left
          · simp only [Act.put, List.setIfInBounds_toArray, List.set_cons_zero, List.set_cons_succ, i64_w, i32_w]
            rfl
          refine one_ (i := 10) (N := some 31) #[true, true, true, true, true, true, true, true, true, true, true, false, false] rfl rfl (by kernel_rfl) (by decide) (fun K hK => ?_)
          rw [if_pos (by rfl)]
          unfold Oper.wp
          go_simp
          refine hK.out _ _ ⟨pw_cell_below (below_alloc (Below.refl _ _) _) hHeld.1, pw_cell_below (below_alloc (Below.refl _ _) _) hHeld.2⟩ (fun hHeld => ?_)
          clear hK K
          refine last_ (i := 11) (N := some 32) #[true, true, true, true, true, true, true, true, true, true, true, true, false] rfl rfl (by kernel_rfl) (by decide) (fun K hK => ?_)
          refine Kd.R_append_step k231 (w0 := w3) w3.heap.size (by rfl) (.tmp 21) (.tmp 31) 229 231 (.agg #[.int .i64 0, .int .i64 0, .int .u32 0]) 24 rfl Tryz.underlying229 info_fld rfl (by decide) (by omega) (.slice Ao xs.length co) xs (⟨p.at_, p.n_, IntKind.u32.wrap (IntKind.u32.wrap (2 ^ p.n_.toNat) - 1)⟩ : S231) [.int .i64 p.at_, .int .i64 p.n_, .int .u32 (IntKind.u32.wrap (IntKind.u32.wrap (2 ^ p.n_.toNat) - 1))] (fun _ => True) (fun _ => False) rfl rfl ?aP (fun _ hk => hk.elim) (fun _ _ => trivial) hR6 hB6 (below_size hB6) ?aL ?_
          case aP => exact k231_mkM _ _ _ (⟨p.at_, p.n_, IntKind.u32.wrap (IntKind.u32.wrap (2 ^ p.n_.toNat) - 1)⟩ : S231)
          case aL => have := HX5.out; omega
          intro v1 w7 ho hb hg hat
          have HO := aq ho
          have HB7 := aq hb
          clear ho hb hg hat
          refine hK.out _ _ ?_
          clear hK K
          refine norm_ (a' := ?_) ?_ ?_
          rotate_left
          · show Act.put _ (some 32) _ = _
            simp only [Act.put, List.setIfInBounds_toArray, List.set_cons_zero, List.set_cons_succ, i64_w, i32_w]
            rfl
          refine pure_ (i := 12) (N := some 5) (v := ?_) (a' := ?_) #[true, true, true, true, true, true, true, true, true, true, true, true, true] rfl rfl (by kernel_rfl) (fun _ _ _ h => h) (Or.inl ⟨by rfl, ?_⟩) ?_ ?_
          rotate_left
          · intro w'
            go_simp
            with_reducible rfl
          rotate_left
          · simp only [Act.put, List.setIfInBounds_toArray, List.set_cons_zero, List.set_cons_succ, i64_w, i32_w]
            rfl
          refine done_ (by kernel_rfl) ?_
          go_wp2
          go_roundg kj
          case measure => omega
          case rel => exact ⟨j + 1, xs ++ [⟨p.at_, p.n_, IntKind.u32.wrap (IntKind.u32.wrap (2 ^ p.n_.toNat) - 1)⟩], by rw [show wrap64 ((j : Int) + 1) = ((j + 1 : Nat) : Int) by unfold wrap64; have h5 := HL5.out; have h6 := HJK.out; omega], by have := HJK.out; omega, ⟨by rw [HX.out]; unfold onesL; rw [List.take_add_one, HPJ.out, List.map_append]; rfl⟩, ⟨HO.out⟩, ⟨HB7.out⟩⟩
def bits_Field.f (a0 : Int) (a1 : Int) (a2 : Int) : Option (Int × Int) := (bits_right.f a1 a2).bind fun t126 => (if t126 = true then (if 0 ≤ a1 then ((bits_ones.f a2).bind fun t127 => (some (Go.bits .and .u32 (shr .u32 a0 a1) ((t127) % 4294967296), 0))) else (none)) else (some (0, 1)))
set_option maxHeartbeats 8000000 in
set_option maxRecDepth 100000 in
theorem bits_Field.calls (a0 : Int) (a1 : Int) (a2 : Int) (r1 : Int) (r2 : Int) (w : World) (h : bits_Field.f a0 a1 a2 = some (r1, r2)) :
    Calls Tryz.prog 101 #[.int .u32 a0, .int .i64 a1, .int .i64 a2] w fun e w' => e = .returned (.tuple #[.int .u32 r1, .int .i64 r2]) ∧ Drawn0 w w' := by
 have H : ((bits_right.f a1 a2).bind fun t126 => (if t126 = true then (if 0 ≤ a1 then ((bits_ones.f a2).bind fun t127 => (some (Go.bits .and .u32 (shr .u32 a0 a1) ((t127) % 4294967296), 0))) else (none)) else (some (0, 1)))) = some (r1, r2) := h
 clear h
 replace H := Option.bind_eq_some_iff.mp H
 obtain ⟨t126, A40, H⟩ := H
 replace H : (if t126 = true then (if 0 ≤ a1 then ((bits_ones.f a2).bind fun t127 => (some (Go.bits .and .u32 (shr .u32 a0 a1) ((t127) % 4294967296), 0))) else (none)) else (some (0, 1))) = some (r1, r2) := H
 have A4 := aq A40
 clear A40
 by_cases c5 : t126 = true
 ·
  subst c5
  have H1 : (if 0 ≤ a1 then ((bits_ones.f a2).bind fun t127 => (some (Go.bits .and .u32 (shr .u32 a0 a1) ((t127) % 4294967296), 0))) else (none)) = some (r1, r2) := by rw [if_pos rfl] at H; exact H
  clear H
  have H := H1
  clear H1
  by_cases c6 : 0 ≤ a1
  ·
   rw [if_pos c6] at H
   have c6b0 := eq_true c6
   have c6b1 : decide (0 ≤ a1) = true := decide_eq_true c6
   clear c6
   obtain ⟨ji7, hji7⟩ : ∃ j_ : Int, (shr .u32 a0 a1) = j_ := ⟨_, rfl⟩
   replace H : ((bits_ones.f a2).bind fun t127 => (some (Go.bits .and .u32 (ji7) ((t127) % 4294967296), 0))) = some (r1, r2) := by first | (rw [hji7] at H; exact H) | (simp only [hji7] at H ⊢; exact H)
   (try rw [hji7] at A4)
   have hji7_ : (a0 / 2 ^ min a1.toNat 32) = ji7 := hji7
   have hji7z : a1 ≤ 32 → (a0 / 2 ^ a1.toNat) = ji7 := shr_small hji7
   replace H := Option.bind_eq_some_iff.mp H
   obtain ⟨t127, A80, H⟩ := H
   replace H : (some (Go.bits .and .u32 (ji7) ((t127) % 4294967296), 0)) = some (r1, r2) := H
   have A8 := aq A80
   clear A80
   simp only [Option.some.injEq, Prod.mk.injEq] at H
   obtain ⟨rfl, rfl⟩ := H
   go_enter Tryz.func101, Tryz.ntmps101
   go_wp2_with (first | (go_at_call 156; (with_reducible refine (bits_right.calls a1 a2 true _ A4.out).mono ?_); rintro e w' ⟨rfl, ⟨nd, rfl⟩⟩; (try first | exact ⟨rfl, _, World.drewN_drewN _ _ _⟩ | exact ⟨rfl, _, Eq.trans (World.drewN_drewN _ _ _) (congrArg (World.drewN _) (Nat.add_assoc _ _ _))⟩)) | (go_at_call 157; (with_reducible refine (bits_ones.calls a2 t127 _ A8.out).mono ?_); rintro e w' ⟨rfl, ⟨nd, rfl⟩⟩; (try first | exact ⟨rfl, _, World.drewN_drewN _ _ _⟩ | exact ⟨rfl, _, Eq.trans (World.drewN_drewN _ _ _) (congrArg (World.drewN _) (Nat.add_assoc _ _ _))⟩)))
   repeat (go_quiet (first | (go_at_call 156; (with_reducible refine (bits_right.calls a1 a2 true _ A4.out).mono ?_); rintro e w' ⟨rfl, ⟨nd, rfl⟩⟩; (try first | exact ⟨rfl, _, World.drewN_drewN _ _ _⟩ | exact ⟨rfl, _, Eq.trans (World.drewN_drewN _ _ _) (congrArg (World.drewN _) (Nat.add_assoc _ _ _))⟩)) | (go_at_call 157; (with_reducible refine (bits_ones.calls a2 t127 _ A8.out).mono ?_); rintro e w' ⟨rfl, ⟨nd, rfl⟩⟩; (try first | exact ⟨rfl, _, World.drewN_drewN _ _ _⟩ | exact ⟨rfl, _, Eq.trans (World.drewN_drewN _ _ _) (congrArg (World.drewN _) (Nat.add_assoc _ _ _))⟩))); try go_wp2_with (first | (go_at_call 156; (with_reducible refine (bits_right.calls a1 a2 true _ A4.out).mono ?_); rintro e w' ⟨rfl, ⟨nd, rfl⟩⟩; (try first | exact ⟨rfl, _, World.drewN_drewN _ _ _⟩ | exact ⟨rfl, _, Eq.trans (World.drewN_drewN _ _ _) (congrArg (World.drewN _) (Nat.add_assoc _ _ _))⟩)) | (go_at_call 157; (with_reducible refine (bits_ones.calls a2 t127 _ A8.out).mono ?_); rintro e w' ⟨rfl, ⟨nd, rfl⟩⟩; (try first | exact ⟨rfl, _, World.drewN_drewN _ _ _⟩ | exact ⟨rfl, _, Eq.trans (World.drewN_drewN _ _ _) (congrArg (World.drewN _) (Nat.add_assoc _ _ _))⟩))))
   go_ret2
   exact ⟨by first | rfl | (simp; done) | (simp only [← hji7] <;> (first | rfl | simp)) | (simp [*]; done), by repeat (first | exact Drawn0.refl _ | apply Drawn0.step)⟩
  ·
   rw [if_neg c6] at H
   exact absurd H (by simp)
 ·
  replace c5 := Bool.eq_false_iff.mpr c5
  subst c5
  have H1 : (some (0, 1)) = some (r1, r2) := by rw [if_neg (show ¬ (false = true) by decide)] at H; exact H
  clear H
  have H := H1
  clear H1
  simp only [Option.some.injEq, Prod.mk.injEq] at H
  obtain ⟨rfl, rfl⟩ := H
  go_enter Tryz.func101, Tryz.ntmps101
  go_wp2_with (first | (go_at_call 156; (with_reducible refine (bits_right.calls a1 a2 false _ A4.out).mono ?_); rintro e w' ⟨rfl, ⟨nd, rfl⟩⟩; (try first | exact ⟨rfl, _, World.drewN_drewN _ _ _⟩ | exact ⟨rfl, _, Eq.trans (World.drewN_drewN _ _ _) (congrArg (World.drewN _) (Nat.add_assoc _ _ _))⟩)))
  repeat (go_quiet (first | (go_at_call 156; (with_reducible refine (bits_right.calls a1 a2 false _ A4.out).mono ?_); rintro e w' ⟨rfl, ⟨nd, rfl⟩⟩; (try first | exact ⟨rfl, _, World.drewN_drewN _ _ _⟩ | exact ⟨rfl, _, Eq.trans (World.drewN_drewN _ _ _) (congrArg (World.drewN _) (Nat.add_assoc _ _ _))⟩))); try go_wp2_with (first | (go_at_call 156; (with_reducible refine (bits_right.calls a1 a2 false _ A4.out).mono ?_); rintro e w' ⟨rfl, ⟨nd, rfl⟩⟩; (try first | exact ⟨rfl, _, World.drewN_drewN _ _ _⟩ | exact ⟨rfl, _, Eq.trans (World.drewN_drewN _ _ _) (congrArg (World.drewN _) (Nat.add_assoc _ _ _))⟩))))
  go_ret2
  exact ⟨by first | rfl | (simp; done) | (simp [*]; done), by repeat (first | exact Drawn0.refl _ | apply Drawn0.step)⟩
def bits_Signed.j0 : Nat → Int → Int → Bool → Option (Int × Int)
 | 0, _, _, _ => none
 | k + 1, x0, x1, x6 => if x6 = true then (some (0, 1)) else ((bits_ones.f x1).bind fun t128 => (if (IntKind.u64.wrap (x0)) > t128 then (some (0, 4)) else (if 0 ≤ (wrap64 (64 - x1)) then (some (shr .i64 (shl .i64 (wrap64 (x0)) (wrap64 (64 - x1))) (wrap64 (64 - x1)), 0)) else (none))))
def bits_Signed.f (k : Nat) (a0 : Int) (a1 : Int) : Option (Int × Int) := if a1 < 1 then (bits_Signed.j0 k a0 a1 true) else (bits_Signed.j0 k a0 a1 (decide (a1 > 32)))
set_option maxHeartbeats 8000000 in
set_option maxRecDepth 100000 in
theorem bits_Signed.calls (k : Nat) (a0 : Int) (a1 : Int) (r1 : Int) (r2 : Int) (w : World) (h : bits_Signed.f k a0 a1 = some (r1, r2)) :
    Calls Tryz.prog 103 #[.int .u32 a0, .int .i64 a1] w fun e w' => e = .returned (.tuple #[.int .i64 r1, .int .i64 r2]) ∧ Drawn0 w w' := by
 have H : (if a1 < 1 then (bits_Signed.j0 k a0 a1 true) else (bits_Signed.j0 k a0 a1 (decide (a1 > 32)))) = some (r1, r2) := h
 clear h
 have HC3 := aq H
 clear H
 go_enter Tryz.func103, Tryz.ntmps103
 go_upto_region 1 with (fail)
 go_cut [6] (fun v6 wc => ∃ (kq : Nat) (x6_2 : Bool), v6 = .bool x6_2 ∧ Aside0 (bits_Signed.j0 kq a0 a1 x6_2 = some (r1, r2)) ∧ Aside0 (kq ≤ k) ∧ Drawn0 w wc)
 case first =>
  have H := HC3.out
  clear HC3
  (try (rw [drewN_self w]; have n0_ := fun n_ => pw_below_drewN HB.out n_; clear HB; generalize hq_ : World.drewN w _ = w; have HB := aq (hq_ ▸ n0_ _); clear hq_ n0_))
  by_cases c4 : a1 < 1
  ·
   rw [if_pos c4] at H
   have c4b0 : decide (a1 < 1) = true := decide_eq_true c4
   clear c4
   (first | rw [c4b0] | (simp only [i64_w, i32_w]; rw [c4b0]) | skip)
   have H' := aq H
   clear H
   go_wp2
   go_meet
   case rel => exact ⟨_, (true), (by first | rfl | (simp; done) | (simp [*]; done)), H', ⟨by first | omega | exact Nat.le_refl _⟩, by repeat (first | exact Drawn0.refl _ | apply Drawn0.step)⟩
  ·
   rw [if_neg c4] at H
   have c4b0 : decide (a1 < 1) = false := decide_eq_false c4
   clear c4
   (first | rw [c4b0] | (simp only [i64_w, i32_w]; rw [c4b0]) | skip)
   have H' := aq H
   clear H
   go_wp2
   go_meet
   case rel => exact ⟨_, (decide (a1 > 32)), (by first | rfl | (simp; done) | (simp [*]; done)), H', ⟨by first | omega | exact Nat.le_refl _⟩, by repeat (first | exact Drawn0.refl _ | apply Drawn0.step)⟩
 case rest =>
  clear HC3
  try clear c1
  try clear p2
  try clear c4
  try clear c4b0
  obtain ⟨kq, x6_2, rfl, HA, HJ2, ⟨mc2, rfl⟩⟩ := hcut
  cases kq with
  | zero => exact absurd HA.out (by simp [bits_Signed.j0])
  | succ kj2 =>
   have H := HA.out
   clear HA
   simp only [bits_Signed.j0] at H
   by_cases c5 : x6_2 = true
   ·
    subst c5
    have H1 : (some (0, 1)) = some (r1, r2) := by rw [if_pos rfl] at H; exact H
    clear H
    have H := H1
    clear H1
    simp only [Option.some.injEq, Prod.mk.injEq] at H
    obtain ⟨rfl, rfl⟩ := H
    go_wp2
    go_ret2
    exact ⟨by first | rfl | (simp; done) | (simp [*]; done), by repeat (first | exact Drawn0.refl _ | apply Drawn0.step)⟩
   ·
    replace c5 := Bool.eq_false_iff.mpr c5
    subst c5
    have H1 : ((bits_ones.f a1).bind fun t128 => (if (IntKind.u64.wrap (a0)) > t128 then (some (0, 4)) else (if 0 ≤ (wrap64 (64 - a1)) then (some (shr .i64 (shl .i64 (wrap64 (a0)) (wrap64 (64 - a1))) (wrap64 (64 - a1)), 0)) else (none)))) = some (r1, r2) := by rw [if_neg (show ¬ (false = true) by decide)] at H; exact H
    clear H
    have H := H1
    clear H1
    replace H := Option.bind_eq_some_iff.mp H
    obtain ⟨t128, A60, H⟩ := H
    replace H : (if (IntKind.u64.wrap (a0)) > t128 then (some (0, 4)) else (if 0 ≤ (wrap64 (64 - a1)) then (some (shr .i64 (shl .i64 (wrap64 (a0)) (wrap64 (64 - a1))) (wrap64 (64 - a1)), 0)) else (none))) = some (r1, r2) := H
    have A6 := aq A60
    clear A60
    by_cases c7 : (IntKind.u64.wrap (a0)) > t128
    ·
     rw [if_pos c7] at H
     have c7b0 : decide (t128 < (IntKind.u64.wrap (a0))) = true := decide_eq_true c7
     clear c7
     simp only [Option.some.injEq, Prod.mk.injEq] at H
     obtain ⟨rfl, rfl⟩ := H
     go_wp2_with (first | ((with_reducible refine gate_callee (f := 157) rfl ?_); refine goesL_ (some 17) rfl rfl Tryz.func157 (by kernel_rfl) rfl #[.int .i64 a1] rfl (by (try simp only [List.map_toArray, List.map_cons, List.map_nil]); first | done | rfl | (simp only [List.length_drop, List.length_take]; rfl)) ?_; (with_reducible refine (bits_ones.calls a1 t128 _ A6.out).mono ?_); rintro e w' ⟨rfl, ⟨nd, rfl⟩⟩; refine ⟨_, rfl, ?_⟩))
     go_ret2
     exact ⟨by first | rfl | (simp; done) | (simp [*]; done), by repeat (first | exact Drawn0.refl _ | apply Drawn0.step)⟩
    ·
     rw [if_neg c7] at H
     have c7b0 : decide (t128 < (IntKind.u64.wrap (a0))) = false := decide_eq_false c7
     clear c7
     obtain ⟨ji8, hji8⟩ : ∃ j_ : Int, (wrap64 (64 - a1)) = j_ := ⟨_, rfl⟩
     replace H : (if 0 ≤ (ji8) then (some (shr .i64 (shl .i64 (wrap64 (a0)) (ji8)) (ji8), 0)) else (none)) = some (r1, r2) := by first | (rw [hji8] at H; exact H) | (simp only [hji8] at H ⊢; exact H)
     (try rw [hji8] at A6)
     have hji8w : (IntKind.i64.wrap (64 - a1)) = ji8 := (i64_w _).trans hji8
     by_cases c9 : 0 ≤ (ji8)
     ·
      rw [if_pos c9] at H
      have c9b0 := eq_true c9
      have c9b1 : decide (0 ≤ (ji8)) = true := decide_eq_true c9
      clear c9
      obtain ⟨ji10, hji10⟩ : ∃ j_ : Int, (shl .i64 (wrap64 (a0)) (ji8)) = j_ := ⟨_, rfl⟩
      replace H : (some (shr .i64 (ji10) (ji8), 0)) = some (r1, r2) := by first | (rw [hji10] at H; exact H) | (simp only [hji10] at H ⊢; exact H)
      (try rw [hji10] at A6)
      have hji10_ : (IntKind.i64.wrap ((wrap64 (a0)) * 2 ^ min (ji8).toNat 64)) = ji10 := hji10
      have hji10z : (ji8) ≤ 64 → (IntKind.i64.wrap ((wrap64 (a0)) * 2 ^ (ji8).toNat)) = ji10 := shl_small hji10
      have hji10y : (wrap64 ((wrap64 (a0)) * 2 ^ min (ji8).toNat 64)) = ji10 := (i64_w _).symm.trans hji10_
      have hji10x : (ji8) ≤ 64 → (wrap64 ((wrap64 (a0)) * 2 ^ (ji8).toNat)) = ji10 := fun h_ => (i64_w _).symm.trans (hji10z h_)
      have c11b0 := eq_true (of_decide_eq_true (by first | (with_reducible assumption) | assumption) : 0 ≤ (ji8))
      obtain ⟨ji12, hji12⟩ : ∃ j_ : Int, (shr .i64 (ji10) (ji8)) = j_ := ⟨_, rfl⟩
      replace H : (some (ji12, 0)) = some (r1, r2) := by first | (rw [hji12] at H; exact H) | (simp only [hji12] at H ⊢; exact H)
      (try rw [hji12] at A6)
      have hji12_ : ((ji10) / 2 ^ min (ji8).toNat 64) = ji12 := hji12
      have hji12z : (ji8) ≤ 64 → ((ji10) / 2 ^ (ji8).toNat) = ji12 := shr_small hji12
      simp only [Option.some.injEq, Prod.mk.injEq] at H
      obtain ⟨rfl, rfl⟩ := H
      go_wp2_with (first | ((with_reducible refine gate_callee (f := 157) rfl ?_); refine goesL_ (some 17) rfl rfl Tryz.func157 (by kernel_rfl) rfl #[.int .i64 a1] rfl (by (try simp only [List.map_toArray, List.map_cons, List.map_nil]); first | done | rfl | (simp only [List.length_drop, List.length_take]; rfl)) ?_; (with_reducible refine (bits_ones.calls a1 t128 _ A6.out).mono ?_); rintro e w' ⟨rfl, ⟨nd, rfl⟩⟩; refine ⟨_, rfl, ?_⟩))
      go_ret2
      exact ⟨by first | rfl | (simp; done) | (simp only [← hji8, ← hji10, ← hji12] <;> (first | rfl | simp)) | (simp [*]; done), by repeat (first | exact Drawn0.refl _ | apply Drawn0.step)⟩
     ·
      rw [if_neg c9] at H
      exact absurd H (by simp)
def inst_shL : List (Bool × Bool × Bool × Bool × Int × Int × Int × Int × Int × Int × Int × Bool) := [(false, false, false, false, 0, 0, 0, 0, 0, 0, 0, false), (true, false, false, false, 0, 65535, 1, 48, 16, 0, 0, false), (true, true, false, false, 0, 4095, 1, 12, 12, 0, 0, true), (true, true, false, false, 0, 0, 0, 0, 0, 0, 0, false), (true, true, true, false, 0, 0, 0, 63, 1, 2, 0, false), (true, true, true, false, 0, 0, 0, 63, 1, 3, 0, false), (true, true, true, true, 0, 0, 0, 0, 0, 0, 0, false), (true, true, false, false, 0, 32760, 8, 0, 0, 0, 0, true), (true, true, false, false, 0, 4095, 1, 0, 0, 0, 0, true), (true, false, false, false, (-1048576), 1048572, 4, 0, 0, 0, 0, false), (true, false, false, false, (-1048576), 1048575, 1, 0, 0, 0, 0, false), (false, false, false, false, (-134217728), 134217724, 4, 0, 0, 0, 0, false), (false, false, false, false, (-1048576), 1048572, 4, 0, 0, 0, 13, false), (false, true, false, false, 0, 0, 0, 0, 0, 0, 0, false), (false, false, false, false, 0, 65535, 1, 0, 0, 0, 0, false), (false, false, false, false, 0, 0, 0, 0, 0, 0, 0, false), (true, true, true, false, 0, 0, 0, 0, 0, 0, 13, false)]
def inst_sh (i : Nat) : Bool × Bool × Bool × Bool × Int × Int × Int × Int × Int × Int × Int × Bool := inst_shL.getD i (false, false, false, false, 0, 0, 0, 0, 0, 0, 0, false)
def inst_shv (t : Bool × Bool × Bool × Bool × Int × Int × Int × Int × Int × Int × Int × Bool) : Array Value := #[.bool t.1, .bool t.2.1, .bool t.2.2.1, .bool t.2.2.2.1, .int .i64 t.2.2.2.2.1, .int .i64 t.2.2.2.2.2.1, .int .i64 t.2.2.2.2.2.2.1, .int .i64 t.2.2.2.2.2.2.2.1, .int .i64 t.2.2.2.2.2.2.2.2.1, .int .i64 t.2.2.2.2.2.2.2.2.2.1, .int .i64 t.2.2.2.2.2.2.2.2.2.2.1, .bool t.2.2.2.2.2.2.2.2.2.2.2]
def inst_shz : Array Value := #[.bool false, .bool false, .bool false, .bool false, .int .i64 0, .int .i64 0, .int .i64 0, .int .i64 0, .int .i64 0, .int .i64 0, .int .i64 0, .bool false]
def inst_shAll : Array Value := #[.bool false, .bool false, .bool false, .bool false, .int .i64 0, .int .i64 0, .int .i64 0, .int .i64 0, .int .i64 0, .int .i64 0, .int .i64 0, .bool false, .bool true, .bool false, .bool false, .bool false, .int .i64 0, .int .i64 65535, .int .i64 1, .int .i64 48, .int .i64 16, .int .i64 0, .int .i64 0, .bool false, .bool true, .bool true, .bool false, .bool false, .int .i64 0, .int .i64 4095, .int .i64 1, .int .i64 12, .int .i64 12, .int .i64 0, .int .i64 0, .bool true, .bool true, .bool true, .bool false, .bool false, .int .i64 0, .int .i64 0, .int .i64 0, .int .i64 0, .int .i64 0, .int .i64 0, .int .i64 0, .bool false, .bool true, .bool true, .bool true, .bool false, .int .i64 0, .int .i64 0, .int .i64 0, .int .i64 63, .int .i64 1, .int .i64 2, .int .i64 0, .bool false, .bool true, .bool true, .bool true, .bool false, .int .i64 0, .int .i64 0, .int .i64 0, .int .i64 63, .int .i64 1, .int .i64 3, .int .i64 0, .bool false, .bool true, .bool true, .bool true, .bool true, .int .i64 0, .int .i64 0, .int .i64 0, .int .i64 0, .int .i64 0, .int .i64 0, .int .i64 0, .bool false, .bool true, .bool true, .bool false, .bool false, .int .i64 0, .int .i64 32760, .int .i64 8, .int .i64 0, .int .i64 0, .int .i64 0, .int .i64 0, .bool true, .bool true, .bool true, .bool false, .bool false, .int .i64 0, .int .i64 4095, .int .i64 1, .int .i64 0, .int .i64 0, .int .i64 0, .int .i64 0, .bool true, .bool true, .bool false, .bool false, .bool false, .int .i64 (-1048576), .int .i64 1048572, .int .i64 4, .int .i64 0, .int .i64 0, .int .i64 0, .int .i64 0, .bool false, .bool true, .bool false, .bool false, .bool false, .int .i64 (-1048576), .int .i64 1048575, .int .i64 1, .int .i64 0, .int .i64 0, .int .i64 0, .int .i64 0, .bool false, .bool false, .bool false, .bool false, .bool false, .int .i64 (-134217728), .int .i64 134217724, .int .i64 4, .int .i64 0, .int .i64 0, .int .i64 0, .int .i64 0, .bool false, .bool false, .bool false, .bool false, .bool false, .int .i64 (-1048576), .int .i64 1048572, .int .i64 4, .int .i64 0, .int .i64 0, .int .i64 0, .int .i64 13, .bool false, .bool false, .bool true, .bool false, .bool false, .int .i64 0, .int .i64 0, .int .i64 0, .int .i64 0, .int .i64 0, .int .i64 0, .int .i64 0, .bool false, .bool false, .bool false, .bool false, .bool false, .int .i64 0, .int .i64 65535, .int .i64 1, .int .i64 0, .int .i64 0, .int .i64 0, .int .i64 0, .bool false, .bool false, .bool false, .bool false, .bool false, .int .i64 0, .int .i64 0, .int .i64 0, .int .i64 0, .int .i64 0, .int .i64 0, .int .i64 0, .bool false, .bool true, .bool true, .bool true, .bool false, .int .i64 0, .int .i64 0, .int .i64 0, .int .i64 0, .int .i64 0, .int .i64 0, .int .i64 13, .bool false]
theorem inst_shzero : (Tryz.prog.info? 223).map (fun i => (i.zero, i.size)) = some (some (.agg inst_shz), 12) := by kernel_rfl
theorem inst_sh1 (W : World) : (Instr.build 223 #[(0, .bool true), (5, .int .i64 65535), (6, .int .i64 1), (7, .int .i64 48), (8, .int .i64 16)]).run Tryz.prog W = .ok (.agg (inst_shv (inst_sh 1))) W := run_build W _ _ _ (by kernel_rfl)
theorem inst_sh2 (W : World) : (Instr.build 223 #[(0, .bool true), (1, .bool true), (5, .int .i64 4095), (6, .int .i64 1), (7, .int .i64 12), (8, .int .i64 12), (11, .bool true)]).run Tryz.prog W = .ok (.agg (inst_shv (inst_sh 2))) W := run_build W _ _ _ (by kernel_rfl)
theorem inst_sh3 (W : World) : (Instr.build 223 #[(0, .bool true), (1, .bool true)]).run Tryz.prog W = .ok (.agg (inst_shv (inst_sh 3))) W := run_build W _ _ _ (by kernel_rfl)
theorem inst_sh4 (W : World) : (Instr.build 223 #[(0, .bool true), (1, .bool true), (2, .bool true), (7, .int .i64 63), (8, .int .i64 1), (9, .int .i64 2)]).run Tryz.prog W = .ok (.agg (inst_shv (inst_sh 4))) W := run_build W _ _ _ (by kernel_rfl)
theorem inst_sh5 (W : World) : (Instr.build 223 #[(0, .bool true), (1, .bool true), (2, .bool true), (7, .int .i64 63), (8, .int .i64 1), (9, .int .i64 3)]).run Tryz.prog W = .ok (.agg (inst_shv (inst_sh 5))) W := run_build W _ _ _ (by kernel_rfl)
theorem inst_sh6 (W : World) : (Instr.build 223 #[(0, .bool true), (1, .bool true), (2, .bool true), (3, .bool true)]).run Tryz.prog W = .ok (.agg (inst_shv (inst_sh 6))) W := run_build W _ _ _ (by kernel_rfl)
theorem inst_sh7 (W : World) : (Instr.build 223 #[(0, .bool true), (1, .bool true), (5, .int .i64 32760), (6, .int .i64 8), (11, .bool true)]).run Tryz.prog W = .ok (.agg (inst_shv (inst_sh 7))) W := run_build W _ _ _ (by kernel_rfl)
theorem inst_sh8 (W : World) : (Instr.build 223 #[(0, .bool true), (1, .bool true), (5, .int .i64 4095), (6, .int .i64 1), (11, .bool true)]).run Tryz.prog W = .ok (.agg (inst_shv (inst_sh 8))) W := run_build W _ _ _ (by kernel_rfl)
theorem inst_sh9 (W : World) : (Instr.build 223 #[(0, .bool true), (4, .int .i64 (-1048576)), (5, .int .i64 1048572), (6, .int .i64 4)]).run Tryz.prog W = .ok (.agg (inst_shv (inst_sh 9))) W := run_build W _ _ _ (by kernel_rfl)
theorem inst_sh10 (W : World) : (Instr.build 223 #[(0, .bool true), (4, .int .i64 (-1048576)), (5, .int .i64 1048575), (6, .int .i64 1)]).run Tryz.prog W = .ok (.agg (inst_shv (inst_sh 10))) W := run_build W _ _ _ (by kernel_rfl)
theorem inst_sh11 (W : World) : (Instr.build 223 #[(4, .int .i64 (-134217728)), (5, .int .i64 134217724), (6, .int .i64 4)]).run Tryz.prog W = .ok (.agg (inst_shv (inst_sh 11))) W := run_build W _ _ _ (by kernel_rfl)
theorem inst_sh12 (W : World) : (Instr.build 223 #[(4, .int .i64 (-1048576)), (5, .int .i64 1048572), (6, .int .i64 4), (10, .int .i64 13)]).run Tryz.prog W = .ok (.agg (inst_shv (inst_sh 12))) W := run_build W _ _ _ (by kernel_rfl)
theorem inst_sh13 (W : World) : (Instr.build 223 #[(1, .bool true)]).run Tryz.prog W = .ok (.agg (inst_shv (inst_sh 13))) W := run_build W _ _ _ (by kernel_rfl)
theorem inst_sh14 (W : World) : (Instr.build 223 #[(5, .int .i64 65535), (6, .int .i64 1)]).run Tryz.prog W = .ok (.agg (inst_shv (inst_sh 14))) W := run_build W _ _ _ (by kernel_rfl)
theorem inst_sh16 (W : World) : (Instr.build 223 #[(0, .bool true), (1, .bool true), (2, .bool true), (10, .int .i64 13)]).run Tryz.prog W = .ok (.agg (inst_shv (inst_sh 16))) W := run_build W _ _ _ (by kernel_rfl)
theorem inst_shBuild (W : World) : (Instr.build 267 #[(1, .agg (inst_shv (inst_sh 1))), (2, .agg (inst_shv (inst_sh 2))), (3, .agg (inst_shv (inst_sh 3))), (4, .agg (inst_shv (inst_sh 4))), (5, .agg (inst_shv (inst_sh 5))), (6, .agg (inst_shv (inst_sh 6))), (7, .agg (inst_shv (inst_sh 7))), (8, .agg (inst_shv (inst_sh 8))), (9, .agg (inst_shv (inst_sh 9))), (10, .agg (inst_shv (inst_sh 10))), (11, .agg (inst_shv (inst_sh 11))), (12, .agg (inst_shv (inst_sh 12))), (13, .agg (inst_shv (inst_sh 13))), (14, .agg (inst_shv (inst_sh 14))), (16, .agg (inst_shv (inst_sh 16)))]).run Tryz.prog W = .ok (.agg inst_shAll) W := run_build W _ _ _ (by kernel_rfl)
theorem inst_shIndex : ∀ (i : Nat) (_ : i < 17) (W : World), (Instr.index 267 (.agg inst_shAll) (.int .i64 (i : Int))).run Tryz.prog W = .ok (.agg (inst_shv (inst_sh i))) W
  | 0, _, _ => by kernel_rfl
  | 1, _, _ => by kernel_rfl
  | 2, _, _ => by kernel_rfl
  | 3, _, _ => by kernel_rfl
  | 4, _, _ => by kernel_rfl
  | 5, _, _ => by kernel_rfl
  | 6, _, _ => by kernel_rfl
  | 7, _, _ => by kernel_rfl
  | 8, _, _ => by kernel_rfl
  | 9, _, _ => by kernel_rfl
  | 10, _, _ => by kernel_rfl
  | 11, _, _ => by kernel_rfl
  | 12, _, _ => by kernel_rfl
  | 13, _, _ => by kernel_rfl
  | 14, _, _ => by kernel_rfl
  | 15, _, _ => by kernel_rfl
  | 16, _, _ => by kernel_rfl
  | i + 17, h, _ => absurd h (by omega)
def inst_shapeOf.f (a0 : Int) : Option (Bool × Bool × Bool × Bool × Int × Int × Int × Int × Int × Int × Int × Bool) := if 0 ≤ a0 ∧ a0 < 17 then some (inst_sh a0.toNat) else none
theorem inst_sh_load (W : World) (t : Bool × Bool × Bool × Bool × Int × Int × Int × Int × Int × Int × Int × Bool) : (loadCellsFrom ⟨W.heap.size, 0, none⟩ 0 12 #[]).run Tryz.prog (W.alloc (.cells (inst_shv t) 223)) = .ok (inst_shv t) (W.alloc (.cells (inst_shv t) 223)) := run_loadCellsFrom_new W _ _ 12 rfl
attribute [-go_sem] Instr.build Instr.fill in
set_option maxHeartbeats 12800000 in
set_option maxRecDepth 100000 in
theorem inst_shapeOf.calls (a0 : Int) (r1 : Bool) (r2 : Bool) (r3 : Bool) (r4 : Bool) (r5 : Int) (r6 : Int) (r7 : Int) (r8 : Int) (r9 : Int) (r10 : Int) (r11 : Int) (r12 : Bool) (w : World) (h : inst_shapeOf.f a0 = some (r1, r2, r3, r4, r5, r6, r7, r8, r9, r10, r11, r12)) :
    Calls Tryz.prog 139 #[.int .i64 a0] w fun e w' => e = .returned (.agg #[.bool r1, .bool r2, .bool r3, .bool r4, .int .i64 r5, .int .i64 r6, .int .i64 r7, .int .i64 r8, .int .i64 r9, .int .i64 r10, .int .i64 r11, .bool r12]) ∧ Below w.heap.size w w' := by
  unfold inst_shapeOf.f at h
  split at h
  · rename_i hh
    obtain ⟨i, rfl⟩ := Int.eq_ofNat_of_zero_le hh.1
    have e := Option.some.inj h
    rw [Int.toNat_natCast] at e
    have ev : (.agg (inst_shv (inst_sh i)) : Value) = .agg #[.bool r1, .bool r2, .bool r3, .bool r4, .int .i64 r5, .int .i64 r6, .int .i64 r7, .int .i64 r8, .int .i64 r9, .int .i64 r10, .int .i64 r11, .bool r12] := by rw [e]; rfl
    rw [← ev]
    clear ev e h
    obtain ⟨hz, hs⟩ := zero_of_info inst_shzero
    have hst := run_storeCells_new (P := Tryz.prog) w 223 inst_shz (inst_shv (inst_sh i)) hs rfl (by simp [inst_shv, Value.oneCell'])
    have hld := inst_sh_load w (inst_sh i)
    have hsz : (inst_shv (inst_sh i)).size = 12 := rfl
    have hi := inst_shIndex i (by omega)
    have hb1 := inst_sh1
    have hb2 := inst_sh2
    have hb3 := inst_sh3
    have hb4 := inst_sh4
    have hb5 := inst_sh5
    have hb6 := inst_sh6
    have hb7 := inst_sh7
    have hb8 := inst_sh8
    have hb9 := inst_sh9
    have hb10 := inst_sh10
    have hb11 := inst_sh11
    have hb12 := inst_sh12
    have hb13 := inst_sh13
    have hb14 := inst_sh14
    have hb16 := inst_sh16
    have hba := inst_shBuild
    go_enter Tryz.func139, Tryz.ntmps139
    go_wp2
    clear hba hb1 hb2 hb3 hb4 hb5 hb6 hb7 hb8 hb9 hb10 hb11 hb12 hb13 hb14 hb16
    refine bodyPost_ret (v := .agg (inst_shv (inst_sh i))) (results_cell_ rfl _ _ rfl (heap_last_ w _) Tryz.underlying223 rfl hs) rfl ⟨rfl, (Below.refl _ _).alloc (Nat.le_refl _) _⟩
  · simp at h
def inst_register.f (a0 : Bool) (a1 : Int) : Option (Bool) := if a1 = 0 then (some true) else (if a0 = true then (if a1 > 0 then (some (decide (a1 ≤ 31))) else (some false)) else (some false))
set_option maxHeartbeats 8000000 in
set_option maxRecDepth 100000 in
theorem inst_register.calls (a0 : Bool) (a1 : Int) (r : Bool) (w : World) (h : inst_register.f a0 a1 = some r) :
    Calls Tryz.prog 140 #[.bool a0, .int .i64 a1] w fun e w' => e = .returned (.bool r) ∧ Drawn0 w w' := by
 have H : (if a1 = 0 then (some true) else (if a0 = true then (if a1 > 0 then (some (decide (a1 ≤ 31))) else (some false)) else (some false))) = some r := h
 clear h
 by_cases c3 : a1 = 0
 ·
  rw [if_pos c3] at H
  have c3b0 : (a1 == 0) = true := beq_iff_eq.mpr c3
  have c3b1 : (a1 != 0) = false := bne_eq_false_iff_eq.mpr c3
  clear c3
  obtain rfl := Option.some.inj H
  go_enter Tryz.func140, Tryz.ntmps140
  go_wp2
  go_ret
  exact ⟨by first | rfl | (simp; done) | (simp [*]; done), by repeat (first | exact Drawn0.refl _ | apply Drawn0.step)⟩
 ·
  rw [if_neg c3] at H
  have c3b0 : (a1 == 0) = false := beq_eq_false_iff_ne.mpr c3
  have c3b1 : (a1 != 0) = true := bne_iff_ne.mpr c3
  by_cases c4 : a0 = true
  ·
   subst c4
   have H1 : (if a1 > 0 then (some (decide (a1 ≤ 31))) else (some false)) = some r := by rw [if_pos rfl] at H; exact H
   clear H
   have H := H1
   clear H1
   by_cases c5 : a1 > 0
   ·
    rw [if_pos c5] at H
    have c5b0 : decide (0 < a1) = true := decide_eq_true c5
    clear c5
    obtain rfl := Option.some.inj H
    go_enter Tryz.func140, Tryz.ntmps140
    go_wp2
    go_ret
    exact ⟨by first | rfl | (simp; done) | (simp [*]; done), by repeat (first | exact Drawn0.refl _ | apply Drawn0.step)⟩
   ·
    rw [if_neg c5] at H
    have c5b0 : decide (0 < a1) = false := decide_eq_false c5
    clear c5
    obtain rfl := Option.some.inj H
    go_enter Tryz.func140, Tryz.ntmps140
    go_wp2
    go_ret
    exact ⟨by first | rfl | (simp; done) | (simp [*]; done), by repeat (first | exact Drawn0.refl _ | apply Drawn0.step)⟩
  ·
   replace c4 := Bool.eq_false_iff.mpr c4
   subst c4
   have H1 : (some false) = some r := by rw [if_neg (show ¬ (false = true) by decide)] at H; exact H
   clear H
   have H := H1
   clear H1
   obtain rfl := Option.some.inj H
   go_enter Tryz.func140, Tryz.ntmps140
   go_wp2
   go_ret
   exact ⟨by first | rfl | (simp; done) | (simp [*]; done), by repeat (first | exact Drawn0.refl _ | apply Drawn0.step)⟩
def inst_step.f (a0 : Int) (a1 : Int) (a2 : Int) (a3 : Int) : Option (Bool) := if a3 = 0 then (some (a0 == 0)) else (if a0 ≥ a1 then (if a0 ≤ a2 then (some ((Int.tmod a0 a3) == 0)) else (some false)) else (some false))
set_option maxHeartbeats 8000000 in
set_option maxRecDepth 100000 in
theorem inst_step.calls (a0 : Int) (a1 : Int) (a2 : Int) (a3 : Int) (r : Bool) (w : World) (h : inst_step.f a0 a1 a2 a3 = some r) :
    Calls Tryz.prog 141 #[.int .i64 a0, .int .i64 a1, .int .i64 a2, .int .i64 a3] w fun e w' => e = .returned (.bool r) ∧ Drawn0 w w' := by
 have H : (if a3 = 0 then (some (a0 == 0)) else (if a0 ≥ a1 then (if a0 ≤ a2 then (some ((Int.tmod a0 a3) == 0)) else (some false)) else (some false))) = some r := h
 clear h
 by_cases c5 : a3 = 0
 ·
  rw [if_pos c5] at H
  have c5b0 : (a3 == 0) = true := beq_iff_eq.mpr c5
  have c5b1 : (a3 != 0) = false := bne_eq_false_iff_eq.mpr c5
  clear c5
  obtain rfl := Option.some.inj H
  go_enter Tryz.func141, Tryz.ntmps141
  go_wp2
  go_ret
  exact ⟨by first | rfl | (simp; done) | (simp [*]; done), by repeat (first | exact Drawn0.refl _ | apply Drawn0.step)⟩
 ·
  rw [if_neg c5] at H
  have c5b0 : (a3 == 0) = false := beq_eq_false_iff_ne.mpr c5
  have c5b1 : (a3 != 0) = true := bne_iff_ne.mpr c5
  by_cases c6 : a0 ≥ a1
  ·
   rw [if_pos c6] at H
   have c6b0 : decide (a1 ≤ a0) = true := decide_eq_true c6
   clear c6
   by_cases c7 : a0 ≤ a2
   ·
    rw [if_pos c7] at H
    have c7b0 : decide (a0 ≤ a2) = true := decide_eq_true c7
    clear c7
    obtain rfl := Option.some.inj H
    go_enter Tryz.func141, Tryz.ntmps141
    go_wp2
    go_ret
    exact ⟨by first | rfl | (simp; done) | (simp [*]; done), by repeat (first | exact Drawn0.refl _ | apply Drawn0.step)⟩
   ·
    rw [if_neg c7] at H
    have c7b0 : decide (a0 ≤ a2) = false := decide_eq_false c7
    clear c7
    obtain rfl := Option.some.inj H
    go_enter Tryz.func141, Tryz.ntmps141
    go_wp2
    go_ret
    exact ⟨by first | rfl | (simp; done) | (simp [*]; done), by repeat (first | exact Drawn0.refl _ | apply Drawn0.step)⟩
  ·
   rw [if_neg c6] at H
   have c6b0 : decide (a1 ≤ a0) = false := decide_eq_false c6
   clear c6
   obtain rfl := Option.some.inj H
   go_enter Tryz.func141, Tryz.ntmps141
   go_wp2
   go_ret
   exact ⟨by first | rfl | (simp; done) | (simp [*]; done), by repeat (first | exact Drawn0.refl _ | apply Drawn0.step)⟩
def mask_ask.f (k : Nat) (v size : Int) : Option Bool := (bits_Low.f v size).bind fun a => (mask_again.f k a size).bind fun b => some (b == v)
set_option maxHeartbeats 8000000 in
theorem mask_ask.calls (k : Nat) (v size : Int) (r : Bool) (B : Nat) (w : World) (hc : w.cell? ⟨B, 0, none⟩ = some (.int .u64 v)) (h : mask_ask.f k v size = some r) :
    Calls Tryz.prog 265 #[.int .i64 size, .pointer (some ⟨B, 0, none⟩)] w fun e w' => e = .returned (.bool r) ∧ Below w.heap.size w w' := by
  unfold mask_ask.f at h
  obtain ⟨a, h1, h⟩ := Option.bind_eq_some_iff.mp h
  obtain ⟨b, h2, h⟩ := Option.bind_eq_some_iff.mp h
  obtain rfl := Option.some.inj h
  have H1 := aq h1
  have H2 := aq h2
  clear h h1 h2
  go_enter Tryz.func265, Tryz.ntmps265
  go_wp2
  go_region_with (first | (go_at_call 111; refine (bits_Low.calls _ _ _ _ H1.out).mono ?_; rintro e w1 ⟨rfl, hb1⟩; have hc1 := pw_cell_below hb1 hc) | (go_at_call 255; refine (mask_again.calls _ _ _ _ _ H2.out).mono ?_; rintro e w2 ⟨rfl, ⟨n2, rfl⟩⟩))
  all_goals go_wp2
  all_goals go_ret
  all_goals exact ⟨rfl, by repeat (first | assumption | exact (below_drew (Below.refl _ _)).trans hb1 | exact Below.refl _ _ | apply below_drew | apply pw_below_drewN | apply below_alloc)⟩
set_option maxHeartbeats 8000000 in
theorem mask_Size.sizes (k : Nat) (v : Int) (r : Int) (B : Nat) (w : World) (hc0 : w.cell? ⟨B, 0, none⟩ = some (.int .u64 v)) (h : mask_sizes.f (mask_ask.f k v) = some r) :
    Calls Tryz.prog 253 #[.func (.func 265) #[] #[.pointer (some ⟨B, 0, none⟩)]] w fun e w' => e = .returned (.int .i64 r) ∧ Below w.heap.size w w' := by
  have hb0 := Below.refl w.heap.size w
  unfold mask_sizes.f at h
  go_enter Tryz.func253, Tryz.ntmps253
  go_wp2
  refine wp_loop_rounds 8 ?_
  obtain ⟨b0, h0, h⟩ := Option.bind_eq_some_iff.mp h
  have H0 := aq h0
  clear h0
  rw [rounds_succ]
  cases b0
  rotate_left
  · rw [if_pos rfl] at h
    obtain rfl := Option.some.inj h
    clear h
    go_wp2_with (first | (go_at_call 265; refine (mask_ask.calls k v _ _ B _ hc0 H0.out).mono ?_; rintro e w1 ⟨rfl, hn1⟩; have hb1 := below_then hb0 hb0.size hn1; have hc1 := pw_cell_below hn1 hc0))
    go_ret
    exact ⟨rfl, hb1⟩
  rw [if_neg (by decide)] at h
  have H := aq h
  clear h
  go_wp2_with (first | (go_at_call 265; refine (mask_ask.calls k v _ _ B _ hc0 H0.out).mono ?_; rintro e w1 ⟨rfl, hn1⟩; have hb1 := below_then hb0 hb0.size hn1; have hc1 := pw_cell_below hn1 hc0))
  replace h := H.out
  clear H
  obtain ⟨b1, h1, h⟩ := Option.bind_eq_some_iff.mp h
  have H1 := aq h1
  clear h1
  rw [rounds_succ]
  cases b1
  rotate_left
  · rw [if_pos rfl] at h
    obtain rfl := Option.some.inj h
    clear h
    go_wp2_with (first | (go_at_call 265; refine (mask_ask.calls k v _ _ B _ hc1 H1.out).mono ?_; rintro e w2 ⟨rfl, hn2⟩; have hb2 := below_then hb1 hb1.size hn2; have hc2 := pw_cell_below hn2 hc1))
    go_ret
    exact ⟨rfl, hb2⟩
  rw [if_neg (by decide)] at h
  have H := aq h
  clear h
  go_wp2_with (first | (go_at_call 265; refine (mask_ask.calls k v _ _ B _ hc1 H1.out).mono ?_; rintro e w2 ⟨rfl, hn2⟩; have hb2 := below_then hb1 hb1.size hn2; have hc2 := pw_cell_below hn2 hc1))
  replace h := H.out
  clear H
  obtain ⟨b2, h2, h⟩ := Option.bind_eq_some_iff.mp h
  have H2 := aq h2
  clear h2
  rw [rounds_succ]
  cases b2
  rotate_left
  · rw [if_pos rfl] at h
    obtain rfl := Option.some.inj h
    clear h
    go_wp2_with (first | (go_at_call 265; refine (mask_ask.calls k v _ _ B _ hc2 H2.out).mono ?_; rintro e w3 ⟨rfl, hn3⟩; have hb3 := below_then hb2 hb2.size hn3; have hc3 := pw_cell_below hn3 hc2))
    go_ret
    exact ⟨rfl, hb3⟩
  rw [if_neg (by decide)] at h
  have H := aq h
  clear h
  go_wp2_with (first | (go_at_call 265; refine (mask_ask.calls k v _ _ B _ hc2 H2.out).mono ?_; rintro e w3 ⟨rfl, hn3⟩; have hb3 := below_then hb2 hb2.size hn3; have hc3 := pw_cell_below hn3 hc2))
  replace h := H.out
  clear H
  obtain ⟨b3, h3, h⟩ := Option.bind_eq_some_iff.mp h
  have H3 := aq h3
  clear h3
  rw [rounds_succ]
  cases b3
  rotate_left
  · rw [if_pos rfl] at h
    obtain rfl := Option.some.inj h
    clear h
    go_wp2_with (first | (go_at_call 265; refine (mask_ask.calls k v _ _ B _ hc3 H3.out).mono ?_; rintro e w4 ⟨rfl, hn4⟩; have hb4 := below_then hb3 hb3.size hn4; have hc4 := pw_cell_below hn4 hc3))
    go_ret
    exact ⟨rfl, hb4⟩
  rw [if_neg (by decide)] at h
  have H := aq h
  clear h
  go_wp2_with (first | (go_at_call 265; refine (mask_ask.calls k v _ _ B _ hc3 H3.out).mono ?_; rintro e w4 ⟨rfl, hn4⟩; have hb4 := below_then hb3 hb3.size hn4; have hc4 := pw_cell_below hn4 hc3))
  replace h := H.out
  clear H
  obtain ⟨b4, h4, h⟩ := Option.bind_eq_some_iff.mp h
  have H4 := aq h4
  clear h4
  rw [rounds_succ]
  cases b4
  rotate_left
  · rw [if_pos rfl] at h
    obtain rfl := Option.some.inj h
    clear h
    go_wp2_with (first | (go_at_call 265; refine (mask_ask.calls k v _ _ B _ hc4 H4.out).mono ?_; rintro e w5 ⟨rfl, hn5⟩; have hb5 := below_then hb4 hb4.size hn5; have hc5 := pw_cell_below hn5 hc4))
    go_ret
    exact ⟨rfl, hb5⟩
  rw [if_neg (by decide)] at h
  have H := aq h
  clear h
  go_wp2_with (first | (go_at_call 265; refine (mask_ask.calls k v _ _ B _ hc4 H4.out).mono ?_; rintro e w5 ⟨rfl, hn5⟩; have hb5 := below_then hb4 hb4.size hn5; have hc5 := pw_cell_below hn5 hc4))
  replace h := H.out
  clear H
  obtain ⟨b5, h5, h⟩ := Option.bind_eq_some_iff.mp h
  have H5 := aq h5
  clear h5
  rw [rounds_succ]
  cases b5
  rotate_left
  · rw [if_pos rfl] at h
    obtain rfl := Option.some.inj h
    clear h
    go_wp2_with (first | (go_at_call 265; refine (mask_ask.calls k v _ _ B _ hc5 H5.out).mono ?_; rintro e w6 ⟨rfl, hn6⟩; have hb6 := below_then hb5 hb5.size hn6; have hc6 := pw_cell_below hn6 hc5))
    go_ret
    exact ⟨rfl, hb6⟩
  rw [if_neg (by decide)] at h
  have H := aq h
  clear h
  go_wp2_with (first | (go_at_call 265; refine (mask_ask.calls k v _ _ B _ hc5 H5.out).mono ?_; rintro e w6 ⟨rfl, hn6⟩; have hb6 := below_then hb5 hb5.size hn6; have hc6 := pw_cell_below hn6 hc5))
  replace h := H.out
  clear H
  obtain rfl := Option.some.inj h
  rw [rounds_succ]
  go_wp2
  go_ret
  exact ⟨rfl, hb6⟩
def mask_Size.f (k : Nat) (a0 : Int) : Option Int := mask_sizes.f (mask_ask.f k a0)
set_option maxHeartbeats 8000000 in
theorem mask_Size.calls (k : Nat) (a0 : Int) (r : Int) (w : World) (h : mask_Size.f k a0 = some r) :
    Calls Tryz.prog 245 #[.int .u64 a0] w fun e w' => e = .returned (.int .i64 r) ∧ Below w.heap.size w w' := by
  go_enter Tryz.func245, Tryz.ntmps245
  go_wp2_with (first | (go_at_call 253; refine (mask_Size.sizes k a0 r w.heap.size _ (by simp) h).mono ?_; rintro e w1 ⟨rfl, hb1⟩))
  go_ret
  have hA := fun o => below_alloc (Below.refl w.heap.size w) o
  exact ⟨rfl, below_then (hA _) (hA _).size hb1⟩
def bits_OnesCount64.f (a0 : Int) : Option (Int) := some (Go.bits .and .i64 (wrap64 (IntKind.u64.wrap ((IntKind.u64.wrap ((IntKind.u64.wrap ((Go.bits .and .u64 (IntKind.u64.wrap (((IntKind.u64.wrap ((Go.bits .and .u64 ((IntKind.u64.wrap ((Go.bits .and .u64 (a0 / 2) 6148914691236517205) + (Go.bits .and .u64 a0 6148914691236517205))) / 4) 3689348814741910323) + (Go.bits .and .u64 (IntKind.u64.wrap ((Go.bits .and .u64 (a0 / 2) 6148914691236517205) + (Go.bits .and .u64 a0 6148914691236517205))) 3689348814741910323))) / 16) + (IntKind.u64.wrap ((Go.bits .and .u64 ((IntKind.u64.wrap ((Go.bits .and .u64 (a0 / 2) 6148914691236517205) + (Go.bits .and .u64 a0 6148914691236517205))) / 4) 3689348814741910323) + (Go.bits .and .u64 (IntKind.u64.wrap ((Go.bits .and .u64 (a0 / 2) 6148914691236517205) + (Go.bits .and .u64 a0 6148914691236517205))) 3689348814741910323))))) 1085102592571150095) + ((Go.bits .and .u64 (IntKind.u64.wrap (((IntKind.u64.wrap ((Go.bits .and .u64 ((IntKind.u64.wrap ((Go.bits .and .u64 (a0 / 2) 6148914691236517205) + (Go.bits .and .u64 a0 6148914691236517205))) / 4) 3689348814741910323) + (Go.bits .and .u64 (IntKind.u64.wrap ((Go.bits .and .u64 (a0 / 2) 6148914691236517205) + (Go.bits .and .u64 a0 6148914691236517205))) 3689348814741910323))) / 16) + (IntKind.u64.wrap ((Go.bits .and .u64 ((IntKind.u64.wrap ((Go.bits .and .u64 (a0 / 2) 6148914691236517205) + (Go.bits .and .u64 a0 6148914691236517205))) / 4) 3689348814741910323) + (Go.bits .and .u64 (IntKind.u64.wrap ((Go.bits .and .u64 (a0 / 2) 6148914691236517205) + (Go.bits .and .u64 a0 6148914691236517205))) 3689348814741910323))))) 1085102592571150095) / 256))) + ((IntKind.u64.wrap ((Go.bits .and .u64 (IntKind.u64.wrap (((IntKind.u64.wrap ((Go.bits .and .u64 ((IntKind.u64.wrap ((Go.bits .and .u64 (a0 / 2) 6148914691236517205) + (Go.bits .and .u64 a0 6148914691236517205))) / 4) 3689348814741910323) + (Go.bits .and .u64 (IntKind.u64.wrap ((Go.bits .and .u64 (a0 / 2) 6148914691236517205) + (Go.bits .and .u64 a0 6148914691236517205))) 3689348814741910323))) / 16) + (IntKind.u64.wrap ((Go.bits .and .u64 ((IntKind.u64.wrap ((Go.bits .and .u64 (a0 / 2) 6148914691236517205) + (Go.bits .and .u64 a0 6148914691236517205))) / 4) 3689348814741910323) + (Go.bits .and .u64 (IntKind.u64.wrap ((Go.bits .and .u64 (a0 / 2) 6148914691236517205) + (Go.bits .and .u64 a0 6148914691236517205))) 3689348814741910323))))) 1085102592571150095) + ((Go.bits .and .u64 (IntKind.u64.wrap (((IntKind.u64.wrap ((Go.bits .and .u64 ((IntKind.u64.wrap ((Go.bits .and .u64 (a0 / 2) 6148914691236517205) + (Go.bits .and .u64 a0 6148914691236517205))) / 4) 3689348814741910323) + (Go.bits .and .u64 (IntKind.u64.wrap ((Go.bits .and .u64 (a0 / 2) 6148914691236517205) + (Go.bits .and .u64 a0 6148914691236517205))) 3689348814741910323))) / 16) + (IntKind.u64.wrap ((Go.bits .and .u64 ((IntKind.u64.wrap ((Go.bits .and .u64 (a0 / 2) 6148914691236517205) + (Go.bits .and .u64 a0 6148914691236517205))) / 4) 3689348814741910323) + (Go.bits .and .u64 (IntKind.u64.wrap ((Go.bits .and .u64 (a0 / 2) 6148914691236517205) + (Go.bits .and .u64 a0 6148914691236517205))) 3689348814741910323))))) 1085102592571150095) / 256))) / 65536))) + ((IntKind.u64.wrap ((IntKind.u64.wrap ((Go.bits .and .u64 (IntKind.u64.wrap (((IntKind.u64.wrap ((Go.bits .and .u64 ((IntKind.u64.wrap ((Go.bits .and .u64 (a0 / 2) 6148914691236517205) + (Go.bits .and .u64 a0 6148914691236517205))) / 4) 3689348814741910323) + (Go.bits .and .u64 (IntKind.u64.wrap ((Go.bits .and .u64 (a0 / 2) 6148914691236517205) + (Go.bits .and .u64 a0 6148914691236517205))) 3689348814741910323))) / 16) + (IntKind.u64.wrap ((Go.bits .and .u64 ((IntKind.u64.wrap ((Go.bits .and .u64 (a0 / 2) 6148914691236517205) + (Go.bits .and .u64 a0 6148914691236517205))) / 4) 3689348814741910323) + (Go.bits .and .u64 (IntKind.u64.wrap ((Go.bits .and .u64 (a0 / 2) 6148914691236517205) + (Go.bits .and .u64 a0 6148914691236517205))) 3689348814741910323))))) 1085102592571150095) + ((Go.bits .and .u64 (IntKind.u64.wrap (((IntKind.u64.wrap ((Go.bits .and .u64 ((IntKind.u64.wrap ((Go.bits .and .u64 (a0 / 2) 6148914691236517205) + (Go.bits .and .u64 a0 6148914691236517205))) / 4) 3689348814741910323) + (Go.bits .and .u64 (IntKind.u64.wrap ((Go.bits .and .u64 (a0 / 2) 6148914691236517205) + (Go.bits .and .u64 a0 6148914691236517205))) 3689348814741910323))) / 16) + (IntKind.u64.wrap ((Go.bits .and .u64 ((IntKind.u64.wrap ((Go.bits .and .u64 (a0 / 2) 6148914691236517205) + (Go.bits .and .u64 a0 6148914691236517205))) / 4) 3689348814741910323) + (Go.bits .and .u64 (IntKind.u64.wrap ((Go.bits .and .u64 (a0 / 2) 6148914691236517205) + (Go.bits .and .u64 a0 6148914691236517205))) 3689348814741910323))))) 1085102592571150095) / 256))) + ((IntKind.u64.wrap ((Go.bits .and .u64 (IntKind.u64.wrap (((IntKind.u64.wrap ((Go.bits .and .u64 ((IntKind.u64.wrap ((Go.bits .and .u64 (a0 / 2) 6148914691236517205) + (Go.bits .and .u64 a0 6148914691236517205))) / 4) 3689348814741910323) + (Go.bits .and .u64 (IntKind.u64.wrap ((Go.bits .and .u64 (a0 / 2) 6148914691236517205) + (Go.bits .and .u64 a0 6148914691236517205))) 3689348814741910323))) / 16) + (IntKind.u64.wrap ((Go.bits .and .u64 ((IntKind.u64.wrap ((Go.bits .and .u64 (a0 / 2) 6148914691236517205) + (Go.bits .and .u64 a0 6148914691236517205))) / 4) 3689348814741910323) + (Go.bits .and .u64 (IntKind.u64.wrap ((Go.bits .and .u64 (a0 / 2) 6148914691236517205) + (Go.bits .and .u64 a0 6148914691236517205))) 3689348814741910323))))) 1085102592571150095) + ((Go.bits .and .u64 (IntKind.u64.wrap (((IntKind.u64.wrap ((Go.bits .and .u64 ((IntKind.u64.wrap ((Go.bits .and .u64 (a0 / 2) 6148914691236517205) + (Go.bits .and .u64 a0 6148914691236517205))) / 4) 3689348814741910323) + (Go.bits .and .u64 (IntKind.u64.wrap ((Go.bits .and .u64 (a0 / 2) 6148914691236517205) + (Go.bits .and .u64 a0 6148914691236517205))) 3689348814741910323))) / 16) + (IntKind.u64.wrap ((Go.bits .and .u64 ((IntKind.u64.wrap ((Go.bits .and .u64 (a0 / 2) 6148914691236517205) + (Go.bits .and .u64 a0 6148914691236517205))) / 4) 3689348814741910323) + (Go.bits .and .u64 (IntKind.u64.wrap ((Go.bits .and .u64 (a0 / 2) 6148914691236517205) + (Go.bits .and .u64 a0 6148914691236517205))) 3689348814741910323))))) 1085102592571150095) / 256))) / 65536))) / 4294967296)))) 127)
set_option maxHeartbeats 8000000 in
set_option maxRecDepth 100000 in
theorem bits_OnesCount64.calls (a0 : Int) (r : Int) (w : World) (h : bits_OnesCount64.f a0 = some r) :
    Calls Tryz.prog 266 #[.int .u64 a0] w fun e w' => e = .returned (.int .i64 r) ∧ Drawn0 w w' := by
 have H : (some (Go.bits .and .i64 (wrap64 (IntKind.u64.wrap ((IntKind.u64.wrap ((IntKind.u64.wrap ((Go.bits .and .u64 (IntKind.u64.wrap (((IntKind.u64.wrap ((Go.bits .and .u64 ((IntKind.u64.wrap ((Go.bits .and .u64 (a0 / 2) 6148914691236517205) + (Go.bits .and .u64 a0 6148914691236517205))) / 4) 3689348814741910323) + (Go.bits .and .u64 (IntKind.u64.wrap ((Go.bits .and .u64 (a0 / 2) 6148914691236517205) + (Go.bits .and .u64 a0 6148914691236517205))) 3689348814741910323))) / 16) + (IntKind.u64.wrap ((Go.bits .and .u64 ((IntKind.u64.wrap ((Go.bits .and .u64 (a0 / 2) 6148914691236517205) + (Go.bits .and .u64 a0 6148914691236517205))) / 4) 3689348814741910323) + (Go.bits .and .u64 (IntKind.u64.wrap ((Go.bits .and .u64 (a0 / 2) 6148914691236517205) + (Go.bits .and .u64 a0 6148914691236517205))) 3689348814741910323))))) 1085102592571150095) + ((Go.bits .and .u64 (IntKind.u64.wrap (((IntKind.u64.wrap ((Go.bits .and .u64 ((IntKind.u64.wrap ((Go.bits .and .u64 (a0 / 2) 6148914691236517205) + (Go.bits .and .u64 a0 6148914691236517205))) / 4) 3689348814741910323) + (Go.bits .and .u64 (IntKind.u64.wrap ((Go.bits .and .u64 (a0 / 2) 6148914691236517205) + (Go.bits .and .u64 a0 6148914691236517205))) 3689348814741910323))) / 16) + (IntKind.u64.wrap ((Go.bits .and .u64 ((IntKind.u64.wrap ((Go.bits .and .u64 (a0 / 2) 6148914691236517205) + (Go.bits .and .u64 a0 6148914691236517205))) / 4) 3689348814741910323) + (Go.bits .and .u64 (IntKind.u64.wrap ((Go.bits .and .u64 (a0 / 2) 6148914691236517205) + (Go.bits .and .u64 a0 6148914691236517205))) 3689348814741910323))))) 1085102592571150095) / 256))) + ((IntKind.u64.wrap ((Go.bits .and .u64 (IntKind.u64.wrap (((IntKind.u64.wrap ((Go.bits .and .u64 ((IntKind.u64.wrap ((Go.bits .and .u64 (a0 / 2) 6148914691236517205) + (Go.bits .and .u64 a0 6148914691236517205))) / 4) 3689348814741910323) + (Go.bits .and .u64 (IntKind.u64.wrap ((Go.bits .and .u64 (a0 / 2) 6148914691236517205) + (Go.bits .and .u64 a0 6148914691236517205))) 3689348814741910323))) / 16) + (IntKind.u64.wrap ((Go.bits .and .u64 ((IntKind.u64.wrap ((Go.bits .and .u64 (a0 / 2) 6148914691236517205) + (Go.bits .and .u64 a0 6148914691236517205))) / 4) 3689348814741910323) + (Go.bits .and .u64 (IntKind.u64.wrap ((Go.bits .and .u64 (a0 / 2) 6148914691236517205) + (Go.bits .and .u64 a0 6148914691236517205))) 3689348814741910323))))) 1085102592571150095) + ((Go.bits .and .u64 (IntKind.u64.wrap (((IntKind.u64.wrap ((Go.bits .and .u64 ((IntKind.u64.wrap ((Go.bits .and .u64 (a0 / 2) 6148914691236517205) + (Go.bits .and .u64 a0 6148914691236517205))) / 4) 3689348814741910323) + (Go.bits .and .u64 (IntKind.u64.wrap ((Go.bits .and .u64 (a0 / 2) 6148914691236517205) + (Go.bits .and .u64 a0 6148914691236517205))) 3689348814741910323))) / 16) + (IntKind.u64.wrap ((Go.bits .and .u64 ((IntKind.u64.wrap ((Go.bits .and .u64 (a0 / 2) 6148914691236517205) + (Go.bits .and .u64 a0 6148914691236517205))) / 4) 3689348814741910323) + (Go.bits .and .u64 (IntKind.u64.wrap ((Go.bits .and .u64 (a0 / 2) 6148914691236517205) + (Go.bits .and .u64 a0 6148914691236517205))) 3689348814741910323))))) 1085102592571150095) / 256))) / 65536))) + ((IntKind.u64.wrap ((IntKind.u64.wrap ((Go.bits .and .u64 (IntKind.u64.wrap (((IntKind.u64.wrap ((Go.bits .and .u64 ((IntKind.u64.wrap ((Go.bits .and .u64 (a0 / 2) 6148914691236517205) + (Go.bits .and .u64 a0 6148914691236517205))) / 4) 3689348814741910323) + (Go.bits .and .u64 (IntKind.u64.wrap ((Go.bits .and .u64 (a0 / 2) 6148914691236517205) + (Go.bits .and .u64 a0 6148914691236517205))) 3689348814741910323))) / 16) + (IntKind.u64.wrap ((Go.bits .and .u64 ((IntKind.u64.wrap ((Go.bits .and .u64 (a0 / 2) 6148914691236517205) + (Go.bits .and .u64 a0 6148914691236517205))) / 4) 3689348814741910323) + (Go.bits .and .u64 (IntKind.u64.wrap ((Go.bits .and .u64 (a0 / 2) 6148914691236517205) + (Go.bits .and .u64 a0 6148914691236517205))) 3689348814741910323))))) 1085102592571150095) + ((Go.bits .and .u64 (IntKind.u64.wrap (((IntKind.u64.wrap ((Go.bits .and .u64 ((IntKind.u64.wrap ((Go.bits .and .u64 (a0 / 2) 6148914691236517205) + (Go.bits .and .u64 a0 6148914691236517205))) / 4) 3689348814741910323) + (Go.bits .and .u64 (IntKind.u64.wrap ((Go.bits .and .u64 (a0 / 2) 6148914691236517205) + (Go.bits .and .u64 a0 6148914691236517205))) 3689348814741910323))) / 16) + (IntKind.u64.wrap ((Go.bits .and .u64 ((IntKind.u64.wrap ((Go.bits .and .u64 (a0 / 2) 6148914691236517205) + (Go.bits .and .u64 a0 6148914691236517205))) / 4) 3689348814741910323) + (Go.bits .and .u64 (IntKind.u64.wrap ((Go.bits .and .u64 (a0 / 2) 6148914691236517205) + (Go.bits .and .u64 a0 6148914691236517205))) 3689348814741910323))))) 1085102592571150095) / 256))) + ((IntKind.u64.wrap ((Go.bits .and .u64 (IntKind.u64.wrap (((IntKind.u64.wrap ((Go.bits .and .u64 ((IntKind.u64.wrap ((Go.bits .and .u64 (a0 / 2) 6148914691236517205) + (Go.bits .and .u64 a0 6148914691236517205))) / 4) 3689348814741910323) + (Go.bits .and .u64 (IntKind.u64.wrap ((Go.bits .and .u64 (a0 / 2) 6148914691236517205) + (Go.bits .and .u64 a0 6148914691236517205))) 3689348814741910323))) / 16) + (IntKind.u64.wrap ((Go.bits .and .u64 ((IntKind.u64.wrap ((Go.bits .and .u64 (a0 / 2) 6148914691236517205) + (Go.bits .and .u64 a0 6148914691236517205))) / 4) 3689348814741910323) + (Go.bits .and .u64 (IntKind.u64.wrap ((Go.bits .and .u64 (a0 / 2) 6148914691236517205) + (Go.bits .and .u64 a0 6148914691236517205))) 3689348814741910323))))) 1085102592571150095) + ((Go.bits .and .u64 (IntKind.u64.wrap (((IntKind.u64.wrap ((Go.bits .and .u64 ((IntKind.u64.wrap ((Go.bits .and .u64 (a0 / 2) 6148914691236517205) + (Go.bits .and .u64 a0 6148914691236517205))) / 4) 3689348814741910323) + (Go.bits .and .u64 (IntKind.u64.wrap ((Go.bits .and .u64 (a0 / 2) 6148914691236517205) + (Go.bits .and .u64 a0 6148914691236517205))) 3689348814741910323))) / 16) + (IntKind.u64.wrap ((Go.bits .and .u64 ((IntKind.u64.wrap ((Go.bits .and .u64 (a0 / 2) 6148914691236517205) + (Go.bits .and .u64 a0 6148914691236517205))) / 4) 3689348814741910323) + (Go.bits .and .u64 (IntKind.u64.wrap ((Go.bits .and .u64 (a0 / 2) 6148914691236517205) + (Go.bits .and .u64 a0 6148914691236517205))) 3689348814741910323))))) 1085102592571150095) / 256))) / 65536))) / 4294967296)))) 127)) = some r := h
 clear h
 obtain rfl := Option.some.inj H
 go_enter Tryz.func266, Tryz.ntmps266
 go_wp2
 go_ret
 exact ⟨by first | rfl | (simp; done) | (simp [*]; done), by repeat (first | exact Drawn0.refl _ | apply Drawn0.step)⟩
def mask_Ones.f (a0 : Int) : Option (Int) := (bits_OnesCount64.f a0).bind fun t129 => (some t129)
set_option maxHeartbeats 8000000 in
set_option maxRecDepth 100000 in
theorem mask_Ones.calls (a0 : Int) (r : Int) (w : World) (h : mask_Ones.f a0 = some r) :
    Calls Tryz.prog 246 #[.int .u64 a0] w fun e w' => e = .returned (.int .i64 r) ∧ Drawn0 w w' := by
 have H : ((bits_OnesCount64.f a0).bind fun t129 => (some t129)) = some r := h
 clear h
 replace H := Option.bind_eq_some_iff.mp H
 obtain ⟨t129, A20, H⟩ := H
 replace H : (some t129) = some r := H
 have A2 := aq A20
 clear A20
 obtain rfl := Option.some.inj H
 go_enter Tryz.func246, Tryz.ntmps246
 go_wp2_with (first | ((with_reducible refine gate_callee (f := 266) rfl ?_); refine goesL_ (some 4) rfl rfl Tryz.func266 (by kernel_rfl) rfl #[.int .u64 a0] rfl (by (try simp only [List.map_toArray, List.map_cons, List.map_nil]); first | done | rfl | (simp only [List.length_drop, List.length_take]; rfl)) ?_; (with_reducible refine (bits_OnesCount64.calls a0 t129 _ A2.out).mono ?_); rintro e w' ⟨rfl, ⟨nd, rfl⟩⟩; refine ⟨_, rfl, ?_⟩))
 go_ret
 exact ⟨by first | rfl | (simp; done) | (simp [*]; done), by repeat (first | exact Drawn0.refl _ | apply Drawn0.step)⟩
def bits_TrailingZeros64.f (a0 : Int) : Option Int := if 0 ≤ a0 ∧ a0 < 18446744073709551616 then some (Lib.ctz 64 a0.toNat : Nat) else none
theorem tz_bits_and (a b : Nat) (ha : a < 18446744073709551616) (hb : b < 18446744073709551616) : Go.bits .and .u64 (a : Int) (b : Int) = ((a &&& b : Nat) : Int) := by
  have hx : a &&& b < 2 ^ 64 := Nat.and_lt_two_pow _ (by omega)
  have h1 : (BitVec.ofInt 64 (a : Int)).toNat = a := by
    rw [BitVec.ofInt_natCast, BitVec.toNat_ofNat]; exact Nat.mod_eq_of_lt (by omega)
  have h2 : (BitVec.ofInt 64 (b : Int)).toNat = b := by
    rw [BitVec.ofInt_natCast, BitVec.toNat_ofNat]; exact Nat.mod_eq_of_lt (by omega)
  show IntKind.u64.wrap ((BitVec.ofInt 64 (a : Int) &&& BitVec.ofInt 64 (b : Int)).toNat : Int) = _
  rw [BitVec.toNat_and, h1, h2, IntKind.wrap_u64]
  omega
theorem tz_key (x a : Nat) (hx : x < 18446744073709551616) (hx0 : x ≠ 0) (hlow : x &&& (18446744073709551616 - x) = a) :
    IntKind.u64.wrap (Go.bits BinOp.and IntKind.u64 (x : Int) (IntKind.u64.wrap (-(x : Int))) * 285870213051353865) / 288230376151711744 = ((a * 285870213051353865 % 18446744073709551616 / 288230376151711744 : Nat) : Int) := by
  have e1 : IntKind.u64.wrap (-(x : Int)) = ((18446744073709551616 - x : Nat) : Int) := by rw [IntKind.wrap_u64]; omega
  rw [e1, tz_bits_and x _ hx (by omega), hlow, IntKind.wrap_u64]
  omega
set_option maxHeartbeats 1000000 in
theorem tz_core (x k idx : Nat) (w : World) (hx0 : ((x : Int) == 0) = false)
    (key : IntKind.u64.wrap (Go.bits BinOp.and IntKind.u64 (x : Int) (IntKind.u64.wrap (-(x : Int))) * 285870213051353865) / 288230376151711744 = (idx : Int))
    (hi : idx < 64) (hk : k < 64) (hcell : w.cell? ⟨1, idx, none⟩ = some (.int .u8 (k : Nat))) :
    Calls Tryz.prog 247 #[.int .u64 x] w fun e w' => e = .returned (.int .i64 k) ∧ w' = w := by
  go_enter Tryz.func247, Tryz.ntmps247
  go_wp2_with (simp only [key])
  go_ret
  exact ⟨rfl, rfl⟩
theorem tz_zero (w : World) : Calls Tryz.prog 247 #[.int .u64 0] w fun e w' => e = .returned (.int .i64 64) ∧ w' = w := by
  go_enter Tryz.func247, Tryz.ntmps247
  go_wp2
  go_ret
  exact ⟨rfl, rfl⟩
theorem bits_TrailingZeros64.calls (a0 : Int) (r : Int) (w : World) (h : bits_TrailingZeros64.f a0 = some r) (hTab : TabW w := by first | exact hTab | exact TabW.drew hTab | exact TabW.drewN hTab _ | exact TabW.below hTab (by repeat (first | (with_reducible first | exact HB.out | apply below_alloc | apply pw_below_drewN | apply below_drew1) | exact HB.out | exact Below.refl _ _))) :
    Calls Tryz.prog 247 #[.int .u64 a0] w fun e w' => e = .returned (.int .i64 r) ∧ Drawn0 w w' := by
  unfold bits_TrailingZeros64.f at h
  split at h
  · rename_i hx
    obtain ⟨x, rfl⟩ := Int.eq_ofNat_of_zero_le hx.1
    obtain rfl := Option.some.inj h
    rw [Int.toNat_natCast]
    by_cases hx0 : x = 0
    · subst hx0
      refine (tz_zero w).mono ?_
      rintro e w' ⟨he, rfl⟩
      exact ⟨he, Drawn0.refl _⟩
    · obtain ⟨hlow, hk⟩ := Lib.lowest_bit 64 x hx0 (by omega)
      obtain ⟨hi, htab⟩ := Lib.deBruijn64_at _ hk
      have hcell := hTab.db _ hi
      rw [htab] at hcell
      refine (tz_core x _ _ w (by simp; omega) (tz_key x _ (by omega) hx0 hlow) hi hk hcell).mono ?_
      rintro e w' ⟨he, rfl⟩
      exact ⟨he, Drawn0.refl _⟩
  · simp at h
def bits_LeadingZeros64.f (k : Nat) (a0 : Int) : Option (Int) := (bits_Len64.f k a0).bind fun t130 => (some (wrap64 (64 - t130)))
set_option maxHeartbeats 8000000 in
set_option maxRecDepth 100000 in
theorem bits_LeadingZeros64.calls (k : Nat) (a0 : Int) (r : Int) (w : World) (h : bits_LeadingZeros64.f k a0 = some r) :
    Calls Tryz.prog 248 #[.int .u64 a0] w fun e w' => e = .returned (.int .i64 r) ∧ Drawn0 w w' := by
 have H : ((bits_Len64.f k a0).bind fun t130 => (some (wrap64 (64 - t130)))) = some r := h
 clear h
 replace H := Option.bind_eq_some_iff.mp H
 obtain ⟨t130, A20, H⟩ := H
 replace H : (some (wrap64 (64 - t130))) = some r := H
 have A2 := aq A20
 clear A20
 obtain rfl := Option.some.inj H
 go_enter Tryz.func248, Tryz.ntmps248
 go_wp2_with (first | ((with_reducible refine gate_callee (f := 138) rfl ?_); refine goesL_ (some 4) rfl rfl Tryz.func138 (by kernel_rfl) rfl #[.int .u64 a0] rfl (by (try simp only [List.map_toArray, List.map_cons, List.map_nil]); first | done | rfl | (simp only [List.length_drop, List.length_take]; rfl)) ?_; (with_reducible refine (bits_Len64.calls k a0 t130 _ A2.out).mono ?_); rintro e w' ⟨rfl, ⟨nd, rfl⟩⟩; refine ⟨_, rfl, ?_⟩))
 go_ret
 exact ⟨by first | rfl | (simp; done) | (simp [*]; done), by repeat (first | exact Drawn0.refl _ | apply Drawn0.step)⟩
theorem eqA269 (d : Nat) (w : World) (x0 y0 : Int) (x1 y1 : Int) (x2 y2 : Int) :
    (Op.equalIn (d + 2) 269 (.agg #[.int .i64 x0, .int .i64 x1, .int .i64 x2]) (.agg #[.int .i64 y0, .int .i64 y1, .int .i64 y2])).run Tryz.prog w = .ok (x0 == y0 && (x1 == y1 && (x2 == y2))) w := by
  refine eqA_of Tryz.underlying269 (by kernel_rfl) ?_
  refine eqf_cons (by rfl) (by go_simp; rfl) (by go_simp; rfl) (by go_simp) ?_
  refine eqf_cons (by rfl) (by go_simp; rfl) (by go_simp; rfl) (by go_simp) ?_
  exact eqf_last (by rfl) (by go_simp; rfl) (by go_simp; rfl) (by go_simp)
end Go.Proofs.YtflojfcioojgbaaGreatDoor.P
namespace Go.Proofs.YtflojfcioojgbaaGreatDoor.P
open Go.RowKit Go.Proofs.YtflojfcioojgbaaGreatDoorW.PrintWords Go.Proofs.YtflojfcioojgbaaGreatDoorW.PrintLast Go.Proofs.YtflojfcioojgbaaGreatDoorW.PrintMore
attribute [local go_sem] max2_int min2_int max_two min_two max_three min_three max_four min_four
set_option linter.unusedVariables false
set_option linter.unusedSimpArgs false
attribute [local go_sem high] eqA269
def bb0_0 : Array Bool := #[false, false, false, false, false, false, false, false, false, false, false, false, false]
def bb0_1 : Array Bool := #[true, false, false, false, false, false, false, false, false, false, false, false, false]
def bb0_2 : Array Bool := #[true, true, false, false, false, false, false, false, false, false, false, false, false]
def bb0_3 : Array Bool := #[true, true, true, false, false, false, false, false, false, false, false, false, false]
def bb0_4 : Array Bool := #[true, true, true, true, false, false, false, false, false, false, false, false, false]
def bb0_5 : Array Bool := #[true, true, true, true, true, false, false, false, false, false, false, false, false]
def bb0_6 : Array Bool := #[true, true, true, true, true, true, false, false, false, false, false, false, false]
def bb0_7 : Array Bool := #[true, true, true, true, true, true, true, false, false, false, false, false, false]
def bb0_8 : Array Bool := #[true, true, true, true, true, true, true, true, false, false, false, false, false]
def bb0_9 : Array Bool := #[true, true, true, true, true, true, true, true, true, true, true, true, false]
def bb0_10 : Array Bool := #[true, true, true, true, true, true, true, true, true, false, false, false, false]
def bb0_11 : Array Bool := #[true, true, true, true, true, true, true, true, false, false, false, true, false]
def bb0_12 : Array Bool := #[true, true, true, true, true, true, true, true, true, true, false, false, false]
def bb0_13 : Array Bool := #[true, true, true, true, true, true, true, true, true, true, true, false, false]
def bb0_14 : Array Bool := #[true, true, true, true, true, true, true, true, true, false, false, true, false]
def bb0_15 : Array Bool := #[true, true, true, true, true, true, true, true, true, true, false, true, false]
def bb0_16 : Array Bool := #[true, true, true, true, true, true, true, true, true, true, true, true, true]
mutual
def mask_tell.j0 : Nat → Int → Int → Int → Bool → Option (Int × Int × Int)
 | 0, _, _, _, _ => none
 | k + 1, x0, x3, x4, x22 => if x22 = true then (some (0, 0, 0)) else ((bits_TrailingZeros64.f x0).bind fun t135 => (if t135 = 0 then (if 0 ≤ (wrap64 (64 - x3)) then ((bits_LeadingZeros64.f k (Go.bits .xor .u64 18446744073709551615 (shl .u64 x0 (wrap64 (64 - x3))))).bind fun t136 => (if x3 = 0 then (none) else (mask_tell.j1 k x0 x3 x4 (Int.tmod (wrap64 (x3 - t136)) x3)))) else (none)) else (mask_tell.j1 k x0 x3 x4 t135)))
def mask_tell.j1 : Nat → Int → Int → Int → Int → Option (Int × Int × Int)
 | 0, _, _, _, _ => none
 | k + 1, x0, x3, x4, x5 => (bits_Rotate.f k x0 x5 x3).bind fun bt137 => ((bits_Low.f 18446744073709551615 x4).bind fun t139 => (if bt137.1 = t139 then (if x3 = 0 then (none) else ((mask_front.f x3).bind fun t140 => (if x3 = 64 then (some (1, Int.tmod (wrap64 (x3 - x5)) x3, wrap64 ((wrap64 (x4 - 1)) + t140))) else (some (0, Int.tmod (wrap64 (x3 - x5)) x3, wrap64 ((wrap64 (x4 - 1)) + t140)))))) else (some (0, 0, 0))))
end
def mask_tell.f (k : Nat) (a0 : Int) : Option (Int × Int × Int) := (mask_Size.f k a0).bind fun t132 => ((bits_Low.f a0 t132).bind fun t133 => ((mask_Ones.f t133).bind fun t134 => (if t134 = 0 then (mask_tell.j0 k t133 t132 t134 true) else (mask_tell.j0 k t133 t132 t134 (t134 == t132)))))
def mask_tell.T12 : Bool × List (List Nat × List Nat) := (true, [([], []), ([], []), ([0, 1], [0, 1]), ([], []), ([2, 3], [2, 3]), ([], []), ([5], [5]), ([], []), ([7], [7]), ([6, 8], [6, 8]), ([4, 9], [4, 9]), ([], []), ([11, 10, 8, 0, 1, 2, 3, 4, 5, 6, 7, 8, 9, 10, 11], [10, 11])])
def mask_tell.B12 : List Nat := [0, 0, 3, 0, 15, 0, 32, 0, 128, 480, 1023, 0, 4095]
theorem mask_tell.tab12 : rtab .any (opsOf Tryz.f191 12) = mask_tell.T12 := by kernel_rfl
theorem mask_tell.bits12 : waitsOk mask_tell.T12.2 mask_tell.B12 = true := by kernel_rfl
set_option maxHeartbeats 8000000 in
set_option maxRecDepth 100000 in
theorem mask_tell.calls (k : Nat) (a0 : Int) (r1 : Int) (r2 : Int) (r3 : Int) (w : World) (h : mask_tell.f k a0 = some (r1, r2, r3)) (hTab : TabW w := by first | exact hTab | exact TabW.drew hTab | exact TabW.drewN hTab _ | exact TabW.below hTab (by repeat (first | (with_reducible first | exact HB.out | apply below_alloc | apply pw_below_drewN | apply below_drew1) | refine Below.setCell ?_ (Aside0.out (by assumption)) _ | exact HB.out | exact Below.refl _ _))) :
    Calls Tryz.prog 191 #[.int .u64 a0] w fun e w' => e = .returned (.agg #[.int .i64 r1, .int .i64 r2, .int .i64 r3]) ∧ Below w.heap.size w w' := by
 have hu269 := Tryz.underlying269
 have HB := aq (Below.refl w.heap.size w)
 have H : ((mask_Size.f k a0).bind fun t132 => ((bits_Low.f a0 t132).bind fun t133 => ((mask_Ones.f t133).bind fun t134 => (if t134 = 0 then (mask_tell.j0 k t133 t132 t134 true) else (mask_tell.j0 k t133 t132 t134 (t134 == t132)))))) = some (r1, r2, r3) := h
 clear h
 replace H := Option.bind_eq_some_iff.mp H
 obtain ⟨t132, A20, H⟩ := H
 replace H : ((bits_Low.f a0 t132).bind fun t133 => ((mask_Ones.f t133).bind fun t134 => (if t134 = 0 then (mask_tell.j0 k t133 t132 t134 true) else (mask_tell.j0 k t133 t132 t134 (t134 == t132))))) = some (r1, r2, r3) := H
 have A2 := aq A20
 clear A20
 replace H := Option.bind_eq_some_iff.mp H
 obtain ⟨t133, A30, H⟩ := H
 replace H : ((mask_Ones.f t133).bind fun t134 => (if t134 = 0 then (mask_tell.j0 k t133 t132 t134 true) else (mask_tell.j0 k t133 t132 t134 (t134 == t132)))) = some (r1, r2, r3) := H
 have A3 := aq A30
 clear A30
 replace H := Option.bind_eq_some_iff.mp H
 obtain ⟨t134, A40, H⟩ := H
 replace H : (if t134 = 0 then (mask_tell.j0 k t133 t132 t134 true) else (mask_tell.j0 k t133 t132 t134 (t134 == t132))) = some (r1, r2, r3) := H
 have A4 := aq A40
 clear A40
 have HC5 := aq H
 clear H
 go_enter Tryz.func191, Tryz.ntmps191
 go_upto_region 4 with (first | ((with_reducible refine gate_dst (N := 2) rfl ?_); refine box_event ?hg (N := 2) ?hd (cs := #[.int .i64 0, .int .i64 0, .int .i64 0]) (t := 269) ?hr ?_; (case hd => rfl); (case hg => rfl); (case hr => first | (go_simp; done) | (go_simp; rfl)); intro gb131 hg w6 hbox hb; have n0_ := aq (below_step (by repeat (first | (with_reducible first | exact HB.out | apply below_alloc | apply pw_below_drewN | apply below_drew1) | exact HB.out)) hb); have n1_ := aq (hbox); have n2_ := aq ((by rw [hg]; exact (below_size (by repeat (first | (with_reducible first | exact HB.out | apply below_alloc | apply pw_below_drewN | apply below_drew1) | exact HB.out))) : w.heap.size ≤ gb131)); have n3_ := aq ((by rw [hg]; exact (below_size (by repeat (first | (with_reducible first | exact HB.out | apply below_alloc | apply pw_below_drewN | apply below_drew1) | exact HB.out))) : w.heap.size ≤ gb131)); clear HB; have HB := n0_; have BK131 := n1_; have GW131 := n2_; have GE131 := n3_; clear n0_ n1_ n2_ n3_; clear hb hbox hg) | ((with_reducible refine gate_callee (f := 245) rfl ?_); refine goesL_ (some 10) rfl rfl Tryz.func245 (by kernel_rfl) rfl #[.int .u64 a0] rfl (by (try simp only [List.map_toArray, List.map_cons, List.map_nil]); first | done | rfl | (simp only [List.length_drop, List.length_take]; rfl)) ?_; (with_reducible refine (mask_Size.calls k a0 t132 _ A2.out).mono ?_); rintro e w7 ⟨rfl, hb⟩; refine ⟨_, rfl, ?_⟩; have n0_ := aq (blk_below (g := gb131) (o := .cells #[.int .i64 0, .int .i64 0, .int .i64 0] 269 (0, 0)) (by (with_reducible repeat (first | refine blk_drewN ?_ _ | refine blk_drew ?_ | refine blk_alloc ?_ _)); exact BK131.out) hb); have n1_ := aq (below_step (by repeat (first | (with_reducible first | exact HB.out | apply below_alloc | apply pw_below_drewN | apply below_drew1 | refine below_set ?_ GE131.out) | exact HB.out)) hb); clear BK131; clear HB; have BK131 := n0_; have HB := n1_; clear n0_ n1_; (try clear hb); (try clear hb2); (try clear hk); (try clear hi)) | ((with_reducible refine gate_callee (f := 111) rfl ?_); refine goesL_ (some 13) rfl rfl Tryz.func111 (by kernel_rfl) rfl #[.int .u64 a0, .int .i64 t132] rfl (by (try simp only [List.map_toArray, List.map_cons, List.map_nil]); first | done | rfl | (simp only [List.length_drop, List.length_take]; rfl)) ?_; (with_reducible refine (bits_Low.calls a0 t132 t133 _ A3.out).mono ?_); rintro e w8 ⟨rfl, hb⟩; refine ⟨_, rfl, ?_⟩; have n0_ := aq (blk_below (g := gb131) (o := .cells #[.int .i64 0, .int .i64 0, .int .i64 0] 269 (0, 0)) (by (with_reducible repeat (first | refine blk_drewN ?_ _ | refine blk_drew ?_ | refine blk_alloc ?_ _)); exact BK131.out) hb); have n1_ := aq (below_step (by repeat (first | (with_reducible first | exact HB.out | apply below_alloc | apply pw_below_drewN | apply below_drew1 | refine below_set ?_ GE131.out) | exact HB.out)) hb); clear BK131; clear HB; have BK131 := n0_; have HB := n1_; clear n0_ n1_; (try clear hb); (try clear hb2); (try clear hk); (try clear hi)) | ((with_reducible refine gate_callee (f := 246) rfl ?_); refine goesL_ (some 15) rfl rfl Tryz.func246 (by kernel_rfl) rfl #[.int .u64 t133] rfl (by (try simp only [List.map_toArray, List.map_cons, List.map_nil]); first | done | rfl | (simp only [List.length_drop, List.length_take]; rfl)) ?_; (with_reducible refine (mask_Ones.calls t133 t134 _ A4.out).mono ?_); rintro e w' ⟨rfl, ⟨nd, rfl⟩⟩; refine ⟨_, rfl, ?_⟩))
 (try simp only [Act.put, List.setIfInBounds_toArray, List.set_cons_zero, List.set_cons_succ])
 go_cut [22] (fun v22 wc => ∃ (kq : Nat) (x22_4 : Bool), v22 = .bool x22_4 ∧ Aside0 (mask_tell.j0 kq t133 t132 t134 x22_4 = some (r1, r2, r3)) ∧ Aside0 (kq ≤ k) ∧ Aside0 (wc.heap[gb131]? = some (.cells #[.int .i64 0, .int .i64 0, .int .i64 0] 269 (0, 0))) ∧ Aside0 (Below w.heap.size w wc))
 case first =>
  have H := HC5.out
  clear HC5
  by_cases c9 : t134 = 0
  ·
   rw [if_pos c9] at H
   have c9b0 : (t134 == 0) = true := beq_iff_eq.mpr c9
   have c9b1 : (t134 != 0) = false := bne_eq_false_iff_eq.mpr c9
   clear c9
   (first | rw [c9b0] | (simp only [i64_w, i32_w]; rw [c9b0]) | skip)
   have H' := aq H
   clear H
   go_wp2
   go_meet
   case rel => exact ⟨_, (true), (by first | rfl | (simp; done) | (simp [*]; done)), H', ⟨by first | omega | exact Nat.le_refl _⟩, ⟨by (with_reducible repeat (first | refine blk_drewN ?_ _ | refine blk_drew ?_ | refine blk_alloc ?_ _)); exact BK131.out⟩, ⟨by repeat (first | (with_reducible first | exact HB.out | apply below_alloc | apply pw_below_drewN | apply below_drew1 | refine below_set ?_ GE131.out) | exact HB.out)⟩⟩
  ·
   rw [if_neg c9] at H
   have c9b0 : (t134 == 0) = false := beq_eq_false_iff_ne.mpr c9
   have c9b1 : (t134 != 0) = true := bne_iff_ne.mpr c9
   (first | rw [c9b0] | (simp only [i64_w, i32_w]; rw [c9b0]) | skip)
   have H' := aq H
   clear H
   go_wp2
   go_meet
   case rel => exact ⟨_, ((t134 == t132)), (by first | rfl | (simp; done) | (simp [*]; done)), H', ⟨by first | omega | exact Nat.le_refl _⟩, ⟨by (with_reducible repeat (first | refine blk_drewN ?_ _ | refine blk_drew ?_ | refine blk_alloc ?_ _)); exact BK131.out⟩, ⟨by repeat (first | (with_reducible first | exact HB.out | apply below_alloc | apply pw_below_drewN | apply below_drew1 | refine below_set ?_ GE131.out) | exact HB.out)⟩⟩
 case rest =>
  clear HC5
  try clear c1
  try clear c2
  try clear p2
  try clear c9
  try clear c9b0
  try clear c9b1
  obtain ⟨kq, x22_4, rfl, HA, HJ4, BK131, HB⟩ := hcut
  cases kq with
  | zero => exact absurd HA.out (by simp [mask_tell.j0])
  | succ kj4 =>
   have H := HA.out
   clear HA
   simp only [mask_tell.j0] at H
   by_cases c10 : x22_4 = true
   ·
    subst c10
    have H1 : (some (0, 0, 0)) = some (r1, r2, r3) := by rw [if_pos rfl] at H; exact H
    clear H
    have H := H1
    clear H1
    simp only [Option.some.injEq, Prod.mk.injEq] at H
    obtain ⟨rfl, rfl, rfl⟩ := H
    have hcz11_0 : wc.cell? ⟨gb131, 0, none⟩ = some (.int .i64 0) := (blk_cell BK131.out 0).trans rfl
    have hcz11_1 : wc.cell? ⟨gb131, 1, none⟩ = some (.int .i64 0) := (blk_cell BK131.out 1).trans rfl
    have hcz11_2 : wc.cell? ⟨gb131, 2, none⟩ = some (.int .i64 0) := (blk_cell BK131.out 2).trans rfl
    have hfz11_0 := blk_frozen BK131.out 0
    have hfz11_1 := blk_frozen BK131.out 1
    have hfz11_2 := blk_frozen BK131.out 2
    go_wp2
    refine bodyPost_ret (results_cell_row rfl _ _ gb131 269 #[.int .i64 0, .int .i64 0, .int .i64 0] (0, 0) _ rfl (by (with_reducible repeat (first | refine blk_drewN ?_ _ | refine blk_drew ?_ | refine blk_alloc ?_ _)); refine blk_put (cs := #[.int .i64 0, .int .i64 0, .int .i64 0]) ?_ 2 _ rfl; (with_reducible repeat (first | refine blk_drewN ?_ _ | refine blk_drew ?_ | refine blk_alloc ?_ _)); refine blk_put (cs := #[.int .i64 0, .int .i64 0, .int .i64 0]) ?_ 1 _ rfl; (with_reducible repeat (first | refine blk_drewN ?_ _ | refine blk_drew ?_ | refine blk_alloc ?_ _)); refine blk_put (cs := #[.int .i64 0, .int .i64 0, .int .i64 0]) ?_ 0 _ rfl; (with_reducible repeat (first | refine blk_drewN ?_ _ | refine blk_drew ?_ | refine blk_alloc ?_ _)); exact BK131.out) Tryz.underlying269 rfl (by kernel_rfl)) rfl ?_
    exact ⟨by first | rfl | (simp [errW_none, errW_some] <;> rfl) | (simp [*, errW_none, errW_some] <;> rfl), by repeat (first | (with_reducible first | exact HB.out | apply below_alloc | apply pw_below_drewN | apply below_drew1 | refine below_set ?_ GE131.out) | exact HB.out)⟩
   ·
    replace c10 := Bool.eq_false_iff.mpr c10
    subst c10
    have H1 : ((bits_TrailingZeros64.f t133).bind fun t135 => (if t135 = 0 then (if 0 ≤ (wrap64 (64 - t132)) then ((bits_LeadingZeros64.f kj4 (Go.bits .xor .u64 18446744073709551615 (shl .u64 t133 (wrap64 (64 - t132))))).bind fun t136 => (if t132 = 0 then (none) else (mask_tell.j1 kj4 t133 t132 t134 (Int.tmod (wrap64 (t132 - t136)) t132)))) else (none)) else (mask_tell.j1 kj4 t133 t132 t134 t135))) = some (r1, r2, r3) := by rw [if_neg (show ¬ (false = true) by decide)] at H; exact H
    clear H
    have H := H1
    clear H1
    replace H := Option.bind_eq_some_iff.mp H
    obtain ⟨t135, A120, H⟩ := H
    replace H : (if t135 = 0 then (if 0 ≤ (wrap64 (64 - t132)) then ((bits_LeadingZeros64.f kj4 (Go.bits .xor .u64 18446744073709551615 (shl .u64 t133 (wrap64 (64 - t132))))).bind fun t136 => (if t132 = 0 then (none) else (mask_tell.j1 kj4 t133 t132 t134 (Int.tmod (wrap64 (t132 - t136)) t132)))) else (none)) else (mask_tell.j1 kj4 t133 t132 t134 t135)) = some (r1, r2, r3) := H
    have A12 := aq A120
    clear A120
    have HC13 := aq H
    clear H
    go_upto_if 27 with (first | ((with_reducible refine gate_callee (f := 247) rfl ?_); refine goesL_ (some 25) rfl rfl Tryz.func247 (by kernel_rfl) rfl #[.int .u64 t133] rfl (by (try simp only [List.map_toArray, List.map_cons, List.map_nil]); first | done | rfl | (simp only [List.length_drop, List.length_take]; rfl)) ?_; (with_reducible refine (bits_TrailingZeros64.calls t133 t135 _ A12.out).mono ?_); rintro e w' ⟨rfl, ⟨nd, rfl⟩⟩; refine ⟨_, rfl, ?_⟩))
    (try simp only [Act.put, List.setIfInBounds_toArray, List.set_cons_zero, List.set_cons_succ])
    go_cut [5] (fun v5 wc => ∃ (kq : Nat) (x5_12 : Int), v5 = .int .i64 x5_12 ∧ Aside0 (mask_tell.j1 kq t133 t132 t134 x5_12 = some (r1, r2, r3)) ∧ Aside0 (kq ≤ kj4) ∧ Aside0 (wc.heap[gb131]? = some (.cells #[.int .i64 0, .int .i64 0, .int .i64 0] 269 (0, 0))) ∧ Aside0 (Below w.heap.size w wc))
    case first =>
     have H := HC13.out
     clear HC13
     by_cases c14 : t135 = 0
     ·
      rw [if_pos c14] at H
      have c14b0 : (t135 == 0) = true := beq_iff_eq.mpr c14
      have c14b1 : (t135 != 0) = false := bne_eq_false_iff_eq.mpr c14
      clear c14
      (first | rw [c14b0] | (simp only [i64_w, i32_w]; rw [c14b0]) | skip)
      obtain ⟨ji15, hji15⟩ : ∃ j_ : Int, (wrap64 (64 - t132)) = j_ := ⟨_, rfl⟩
      replace H : (if 0 ≤ (ji15) then ((bits_LeadingZeros64.f kj4 (Go.bits .xor .u64 18446744073709551615 (shl .u64 t133 (ji15)))).bind fun t136 => (if t132 = 0 then (none) else (mask_tell.j1 kj4 t133 t132 t134 (Int.tmod (wrap64 (t132 - t136)) t132)))) else (none)) = some (r1, r2, r3) := by first | (rw [hji15] at H; exact H) | (simp only [hji15] at H ⊢; exact H)
      have hji15w : (IntKind.i64.wrap (64 - t132)) = ji15 := (i64_w _).trans hji15
      by_cases c16 : 0 ≤ (ji15)
      ·
       rw [if_pos c16] at H
       have c16b0 := eq_true c16
       have c16b1 : decide (0 ≤ (ji15)) = true := decide_eq_true c16
       clear c16
       obtain ⟨ji17, hji17⟩ : ∃ j_ : Int, (shl .u64 t133 (ji15)) = j_ := ⟨_, rfl⟩
       replace H : ((bits_LeadingZeros64.f kj4 (Go.bits .xor .u64 18446744073709551615 (ji17))).bind fun t136 => (if t132 = 0 then (none) else (mask_tell.j1 kj4 t133 t132 t134 (Int.tmod (wrap64 (t132 - t136)) t132)))) = some (r1, r2, r3) := by first | (rw [hji17] at H; exact H) | (simp only [hji17] at H ⊢; exact H)
       have hji17_ : (IntKind.u64.wrap (t133 * 2 ^ min (ji15).toNat 64)) = ji17 := hji17
       have hji17z : (ji15) ≤ 64 → (IntKind.u64.wrap (t133 * 2 ^ (ji15).toNat)) = ji17 := shl_small hji17
       replace H := Option.bind_eq_some_iff.mp H
       obtain ⟨t136, A180, H⟩ := H
       replace H : (if t132 = 0 then (none) else (mask_tell.j1 kj4 t133 t132 t134 (Int.tmod (wrap64 (t132 - t136)) t132))) = some (r1, r2, r3) := H
       have A18 := aq A180
       clear A180
       by_cases c19 : t132 = 0
       ·
        rw [if_pos c19] at H
        exact absurd H (by simp)
       ·
        rw [if_neg c19] at H
        have c19b0 : (t132 == 0) = false := beq_eq_false_iff_ne.mpr c19
        have c19b1 : (t132 != 0) = true := bne_iff_ne.mpr c19
        have H' := aq H
        clear H
        go_wp2_with (first | ((with_reducible refine gate_callee (f := 248) rfl ?_); refine goesL_ (some 34) rfl rfl Tryz.func248 (by kernel_rfl) rfl #[.int .u64 (Go.bits .xor .u64 18446744073709551615 (ji17))] rfl (by (try simp only [List.map_toArray, List.map_cons, List.map_nil]); first | done | (simp only [hji17]; rfl) | rfl | (simp only [List.length_drop, List.length_take]; rfl)) ?_; (with_reducible refine (bits_LeadingZeros64.calls kj4 (Go.bits .xor .u64 18446744073709551615 (ji17)) t136 _ A18.out).mono ?_); rintro e w' ⟨rfl, ⟨nd, rfl⟩⟩; refine ⟨_, rfl, ?_⟩))
        go_meet
        case rel => exact ⟨_, (Int.tmod (wrap64 (t132 - t136)) t132), (by first | rfl | (simp; done) | (simp [*]; done)), H', ⟨by have := HJ4.out; first | omega | exact Nat.le_refl _⟩, ⟨by (with_reducible repeat (first | refine blk_drewN ?_ _ | refine blk_drew ?_ | refine blk_alloc ?_ _)); exact BK131.out⟩, ⟨by repeat (first | (with_reducible first | exact HB.out | apply below_alloc | apply pw_below_drewN | apply below_drew1 | refine below_set ?_ GE131.out) | exact HB.out)⟩⟩
      ·
       rw [if_neg c16] at H
       exact absurd H (by simp)
     ·
      rw [if_neg c14] at H
      have c14b0 : (t135 == 0) = false := beq_eq_false_iff_ne.mpr c14
      have c14b1 : (t135 != 0) = true := bne_iff_ne.mpr c14
      (first | rw [c14b0] | (simp only [i64_w, i32_w]; rw [c14b0]) | skip)
      have H' := aq H
      clear H
      go_wp2
      go_meet
      case rel => exact ⟨_, (t135), (by first | rfl | (simp; done) | (simp [*]; done)), H', ⟨by have := HJ4.out; first | omega | exact Nat.le_refl _⟩, ⟨by (with_reducible repeat (first | refine blk_drewN ?_ _ | refine blk_drew ?_ | refine blk_alloc ?_ _)); exact BK131.out⟩, ⟨by repeat (first | (with_reducible first | exact HB.out | apply below_alloc | apply pw_below_drewN | apply below_drew1 | refine below_set ?_ GE131.out) | exact HB.out)⟩⟩
    case rest =>
     clear HC13
     try clear c1
     try clear c2
     try clear p2
     try clear p6
     try clear c9
     try clear c9b0
     try clear c9b1
     try clear c10
     try clear c11
     try clear c14
     try clear c14b0
     try clear c14b1
     try clear c16
     try clear c16b0
     try clear c16b1
     try clear c19
     try clear c19b0
     try clear c19b1
     try clear hcz11_0 hcz11_1 hcz11_2
     try clear hfz11_0
     try clear p2
     obtain ⟨kq, x5_12, rfl, HA, HJ12, BK131, HB⟩ := hcut
     cases kq with
     | zero => exact absurd HA.out (by simp [mask_tell.j1])
     | succ kj12 =>
      have H := HA.out
      clear HA
      simp only [mask_tell.j1] at H
      replace H := Option.bind_eq_some_iff.mp H
      obtain ⟨⟨t137, t138⟩, A200, H⟩ := H
      replace H : ((bits_Low.f 18446744073709551615 t134).bind fun t139 => (if t137 = t139 then (if t132 = 0 then (none) else ((mask_front.f t132).bind fun t140 => (if t132 = 64 then (some (1, Int.tmod (wrap64 (t132 - x5_12)) t132, wrap64 ((wrap64 (t134 - 1)) + t140))) else (some (0, Int.tmod (wrap64 (t132 - x5_12)) t132, wrap64 ((wrap64 (t134 - 1)) + t140)))))) else (some (0, 0, 0)))) = some (r1, r2, r3) := H
      have A20 := aq A200
      clear A200
      replace H := Option.bind_eq_some_iff.mp H
      obtain ⟨t139, A210, H⟩ := H
      replace H : (if t137 = t139 then (if t132 = 0 then (none) else ((mask_front.f t132).bind fun t140 => (if t132 = 64 then (some (1, Int.tmod (wrap64 (t132 - x5_12)) t132, wrap64 ((wrap64 (t134 - 1)) + t140))) else (some (0, Int.tmod (wrap64 (t132 - x5_12)) t132, wrap64 ((wrap64 (t134 - 1)) + t140)))))) else (some (0, 0, 0))) = some (r1, r2, r3) := H
      have A21 := aq A210
      clear A210
      by_cases c22 : t137 = t139
      ·
       rw [if_pos c22] at H
       have c22b0 : (t137 == t139) = true := beq_iff_eq.mpr c22
       have c22b1 : (t137 != t139) = false := bne_eq_false_iff_eq.mpr c22
       clear c22
       by_cases c23 : t132 = 0
       ·
        rw [if_pos c23] at H
        exact absurd H (by simp)
       ·
        rw [if_neg c23] at H
        have c23b0 : (t132 == 0) = false := beq_eq_false_iff_ne.mpr c23
        have c23b1 : (t132 != 0) = true := bne_iff_ne.mpr c23
        replace H := Option.bind_eq_some_iff.mp H
        obtain ⟨t140, A240, H⟩ := H
        replace H : (if t132 = 64 then (some (1, Int.tmod (wrap64 (t132 - x5_12)) t132, wrap64 ((wrap64 (t134 - 1)) + t140))) else (some (0, Int.tmod (wrap64 (t132 - x5_12)) t132, wrap64 ((wrap64 (t134 - 1)) + t140)))) = some (r1, r2, r3) := H
        have A24 := aq A240
        clear A240
        by_cases c25 : t132 = 64
        ·
         rw [if_pos c25] at H
         have c25b0 : (t132 == 64) = true := beq_iff_eq.mpr c25
         have c25b1 : (t132 != 64) = false := bne_eq_false_iff_eq.mpr c25
         clear c25
         simp only [Option.some.injEq, Prod.mk.injEq] at H
         obtain ⟨rfl, rfl, rfl⟩ := H
         try go_wp2_with (first | ((with_reducible refine gate_callee (f := 249) rfl ?_); refine goesL_ (some 42) rfl rfl Tryz.func249 (by kernel_rfl) rfl #[.int .u64 t133, .int .i64 x5_12, .int .i64 t132] rfl (by (try simp only [List.map_toArray, List.map_cons, List.map_nil]); first | done | rfl | (simp only [List.length_drop, List.length_take]; rfl)) ?_; (with_reducible refine (bits_Rotate.calls kj12 t133 x5_12 t132 t137 t138 _ A20.out).mono ?_); rintro e w26 ⟨rfl, hb⟩; refine ⟨_, rfl, ?_⟩; have n0_ := aq (blk_below (g := gb131) (o := .cells #[.int .i64 0, .int .i64 0, .int .i64 0] 269 (0, 0)) (by (with_reducible repeat (first | refine blk_drewN ?_ _ | refine blk_drew ?_ | refine blk_alloc ?_ _)); exact BK131.out) hb); have n1_ := aq (below_step (by repeat (first | (with_reducible first | exact HB.out | apply below_alloc | apply pw_below_drewN | apply below_drew1 | refine below_set ?_ GE131.out) | exact HB.out)) hb); clear BK131; clear HB; have BK131 := n0_; have HB := n1_; clear n0_ n1_; (try clear hb); (try clear hb2); (try clear hk); (try clear hi)) | ((with_reducible refine gate_callee (f := 111) rfl ?_); refine goesL_ (some 47) rfl rfl Tryz.func111 (by kernel_rfl) rfl #[.int .u64 18446744073709551615, .int .i64 t134] rfl (by (try simp only [List.map_toArray, List.map_cons, List.map_nil]); first | done | rfl | (simp only [List.length_drop, List.length_take]; rfl)) ?_; (with_reducible refine (bits_Low.calls 18446744073709551615 t134 t139 _ A21.out).mono ?_); rintro e w27 ⟨rfl, hb⟩; refine ⟨_, rfl, ?_⟩; have n0_ := aq (blk_below (g := gb131) (o := .cells #[.int .i64 0, .int .i64 0, .int .i64 0] 269 (0, 0)) (by (with_reducible repeat (first | refine blk_drewN ?_ _ | refine blk_drew ?_ | refine blk_alloc ?_ _)); exact BK131.out) hb); have n1_ := aq (below_step (by repeat (first | (with_reducible first | exact HB.out | apply below_alloc | apply pw_below_drewN | apply below_drew1 | refine below_set ?_ GE131.out) | exact HB.out)) hb); clear BK131; clear HB; have BK131 := n0_; have HB := n1_; clear n0_ n1_; (try clear hb); (try clear hb2); (try clear hk); (try clear hi)))
         have n0_ := aq (blk_drew BK131.out)
         have n1_ := aq (below_drew1 HB.out)
         clear BK131
         clear HB
         have BK131 := n0_
         have HB := n1_
         clear n0_ n1_
         refine start_ (n := 13) (S := fun w' => True) (ds := []) bb0_0 (by kernel_rfl) rfl rfl trivial (fun hHeld => ?_); refine with_tabW mask_tell.tab12 mask_tell.bits12 (fun HT_ HW_ => ?_)
         generalize w27.drew = w28 at BK131 HB hHeld ⊢
         refine pure_ (i := 0) (N := some 50) (v := ?_) (a' := ?_) bb0_1 rfl rfl (any_of HT_.out (by kernel_rfl)) (fun _ _ _ h => h) (Or.inl ⟨by rfl, ?_⟩) ?_ ?_
         rotate_left
         · intro w'; go_simp; with_reducible rfl
         rotate_left
         · simp only [qa_, qb_, qc_, qd_, i64_w, i32_w]; rfl
         refine pure_ (i := 1) (N := some 51) (v := ?_) (a' := ?_) bb0_2 rfl rfl (any_of HT_.out (by kernel_rfl)) (fun _ _ _ h => h) (Or.inl ⟨by rfl, ?_⟩) ?_ ?_
         rotate_left
         · intro w'; go_simp; with_reducible rfl
         rotate_left
         · simp only [qa_, qb_, qc_, qd_, i64_w, i32_w]; rfl
         refine pure_ (i := 2) (N := some 52) (v := ?_) (a' := ?_) bb0_3 rfl rfl (any_of HT_.out (by kernel_rfl)) (fun _ _ _ h => h) (Or.inl ⟨by rfl, ?_⟩) ?_ ?_
         rotate_left
         · intro w'; go_simp; with_reducible rfl
         rotate_left
         · simp only [qa_, qb_, qc_, qd_, i64_w, i32_w]; rfl
         refine pure_ (i := 3) (N := some 53) (v := ?_) (a' := ?_) bb0_4 rfl rfl (any_of HT_.out (by kernel_rfl)) (fun _ _ _ h => h) (Or.inl ⟨by rfl, ?_⟩) ?_ ?_
         rotate_left
         · intro w'; go_simp; with_reducible rfl
         rotate_left
         · simp only [qa_, qb_, qc_, qd_, i64_w, i32_w]; rfl
         refine pure_ (i := 4) (N := some 54) (v := ?_) (a' := ?_) bb0_5 rfl rfl (any_of HT_.out (by kernel_rfl)) (fun _ _ _ h => h) (Or.inl ⟨by rfl, ?_⟩) ?_ ?_
         rotate_left
         · intro w'; go_simp; with_reducible rfl
         rotate_left
         · simp only [qa_, qb_, qc_, qd_, i64_w, i32_w]; rfl
         refine pure_ (i := 5) (N := some 55) (v := ?_) (a' := ?_) bb0_6 rfl rfl (any_of HT_.out (by kernel_rfl)) (fun _ _ _ h => h) (Or.inl ⟨by rfl, ?_⟩) ?_ ?_
         rotate_left
         · intro w'; go_simp; with_reducible rfl
         rotate_left
         · simp only [qa_, qb_, qc_, qd_, i64_w, i32_w]; rfl
         refine pure_ (i := 6) (N := some 56) (v := ?_) (a' := ?_) bb0_7 rfl rfl (any_of HT_.out (by kernel_rfl)) (fun _ _ _ h => h) (Or.inl ⟨by rfl, ?_⟩) ?_ ?_
         rotate_left
         · intro w'; go_simp; with_reducible rfl
         rotate_left
         · simp only [qa_, qb_, qc_, qd_, i64_w, i32_w]; rfl
         refine pure_ (i := 7) (N := some 57) (v := ?_) (a' := ?_) bb0_8 rfl rfl (any_of HT_.out (by kernel_rfl)) (fun _ _ _ h => h) (Or.inl ⟨by rfl, ?_⟩) ?_ ?_
         rotate_left
         · intro w'; go_simp; with_reducible rfl
         rotate_left
         · simp only [qa_, qb_, qc_, qd_, i64_w, i32_w]; rfl
         refine join_ (σ := Nat) 1 bb0_9 (fun s_ => [(58, .int .i64 t140), (8, .pointer (some ⟨s_, 0, none⟩)), (59, .int .i64 (wrap64 ((wrap64 (t134 - 1)) + t140))), (60, .agg #[.int .i64 0, .int .i64 (Int.tmod (wrap64 (t132 - x5_12)) t132), .int .i64 (wrap64 ((wrap64 (t134 - 1)) + t140))])]) (fun s_ w' => (w'.heap[gb131]? = some (.cells #[.int .i64 0, .int .i64 0, .int .i64 0] 269 (0, 0))) ∧ (w'.heap[s_]? = some (.cells #[.int .i64 0, .int .i64 0, .int .i64 0] 269 (0, 0))) ∧ (w.heap.size ≤ s_) ∧ (w.heap.size ≤ s_) ∧ (gb131 ≠ s_) ∧ (s_ ≠ gb131) ∧ (Below w.heap.size w w')) ?_ ?_
         rotate_left
         ·
          intro hCont
          refine two_ (i := 8) (j := 11) (Ni := some 58) (Nj := some 8) bb0_10 bb0_11 rfl rfl rfl rfl (two_of HT_.out (by kernel_rfl)) (by decide) (by decide) (fun K hK => ?_) (fun K hK => ?_)
          ·
           skip
           refine goes_ Tryz.func250 (by kernel_rfl) rfl #[.int .i64 t132] (by rfl) rfl rfl (by (try simp only [List.map_toArray, List.map_cons, List.map_nil]); first | done | rfl | (simp only [List.length_drop, List.length_take]; rfl)) ?_
           with_reducible refine (mask_front.calls t132 t140 _ A24.out).mono ?_
           rintro e w' ⟨rfl, ⟨nd, rfl⟩⟩
           refine ⟨_, rfl, ?_⟩
           refine hK.out _ _ trivial (fun hHeld => ?_)
           clear hK K
           refine norm_ (a' := ?_) ?_ ?_
           rotate_left
           ·
            show Act.put _ (some 58) _ = _
            simp only [qa_, qb_, qc_, qd_, i64_w, i32_w]
            rfl
           refine pure_ (i := 9) (N := some 59) (v := ?_) (a' := ?_) bb0_12 rfl rfl (any_of HT_.out (by kernel_rfl)) (fun _ _ _ h => h) (Or.inl ⟨by rfl, ?_⟩) ?_ ?_
           rotate_left
           · intro w'; go_simp; with_reducible rfl
           rotate_left
           · simp only [qa_, qb_, qc_, qd_, i64_w, i32_w]; rfl
           refine pure_ (i := 10) (N := some 60) (v := ?_) (a' := ?_) bb0_13 rfl rfl (any_of HT_.out (by kernel_rfl)) (fun _ _ _ h => h) (Or.inl ⟨by rfl, ?_⟩) ?_ ?_
           rotate_left
           · intro w'; go_simp; with_reducible rfl
           rotate_left
           · simp only [qa_, qb_, qc_, qd_, i64_w, i32_w]; rfl
           refine one_ (i := 11) (N := some 8) bb0_9 rfl rfl (one_of HT_.out (by kernel_rfl)) (by decide) (fun K hK => ?_)
           refine box_step ?hg (N := 8) ?hd (cs := #[.int .i64 0, .int .i64 0, .int .i64 0]) (t := 269) ?hr ?_; (case hd => rfl); (case hg => rfl); (case hr => first | (go_simp; done) | (go_simp; rfl))
           intro gb141 hg w29 hbox hb
           have n0_ := aq (blk_below (g := gb131) (o := .cells #[.int .i64 0, .int .i64 0, .int .i64 0] 269 (0, 0)) (by (with_reducible repeat (first | refine blk_drewN ?_ _ | refine blk_drew ?_ | refine blk_alloc ?_ _)); exact BK131.out) hb)
           have n1_ := aq (below_step (by repeat (first | (with_reducible first | exact HB.out | apply below_alloc | apply pw_below_drewN | apply below_drew1 | refine below_set ?_ GE131.out) | exact HB.out)) hb)
           have n2_ := aq (hbox)
           have n3_ := aq ((by rw [hg]; exact (below_size (by repeat (first | (with_reducible first | exact HB.out | apply below_alloc | apply pw_below_drewN | apply below_drew1 | refine below_set ?_ GE131.out) | exact HB.out))) : w.heap.size ≤ gb141))
           have n4_ := aq ((by rw [hg]; exact (below_size (by repeat (first | (with_reducible first | exact HB.out | apply below_alloc | apply pw_below_drewN | apply below_drew1 | refine below_set ?_ GE131.out) | exact HB.out))) : w.heap.size ≤ gb141))
           have n5_ := aq ((by rw [hg]; exact Nat.ne_of_lt (blk_lt (g := gb131) (o := .cells #[.int .i64 0, .int .i64 0, .int .i64 0] 269 (0, 0)) (by (with_reducible repeat (first | refine blk_drewN ?_ _ | refine blk_drew ?_ | refine blk_alloc ?_ _)); exact BK131.out)) : gb131 ≠ gb141))
           have n6_ := aq ((by rw [hg]; exact Nat.ne_of_gt (blk_lt (g := gb131) (o := .cells #[.int .i64 0, .int .i64 0, .int .i64 0] 269 (0, 0)) (by (with_reducible repeat (first | refine blk_drewN ?_ _ | refine blk_drew ?_ | refine blk_alloc ?_ _)); exact BK131.out)) : gb141 ≠ gb131))
           clear BK131
           clear HB
           have BK131 := n0_
           have HB := n1_
           have BK141 := n2_
           have GW141 := n3_
           have GE141 := n4_
           have NB131_141 := n5_
           have NB141_131 := n6_
           clear n0_ n1_ n2_ n3_ n4_ n5_ n6_
           clear hb hbox hg
           refine hK.out _ _ trivial (fun hHeld => ?_)
           clear hK K
           refine norm_ (a' := ?_) ?_ ?_
           rotate_left
           ·
            show Act.put _ (some 8) _ = _
            simp only [qa_, qb_, qc_, qd_, i64_w, i32_w]
            rfl
           exact norm_ (by simp only [putAll, Act.put, List.setIfInBounds_toArray, List.set_cons_zero, List.set_cons_succ]) (hCont (gb141) _ ⟨(by (with_reducible repeat (first | refine blk_drewN ?_ _ | refine blk_drew ?_ | refine blk_alloc ?_ _)); exact BK131.out), (by (with_reducible repeat (first | refine blk_drewN ?_ _ | refine blk_drew ?_ | refine blk_alloc ?_ _)); exact BK141.out), GW141.out, GE141.out, NB131_141.out, NB141_131.out, (by repeat (first | (with_reducible first | exact HB.out | apply below_alloc | apply pw_below_drewN | apply below_drew1 | refine below_set ?_ GE131.out | refine below_set ?_ GE141.out) | exact HB.out))⟩)
          ·
           skip
           refine box_step ?hg (N := 8) ?hd (cs := #[.int .i64 0, .int .i64 0, .int .i64 0]) (t := 269) ?hr ?_; (case hd => rfl); (case hg => rfl); (case hr => first | (go_simp; done) | (go_simp; rfl))
           intro gb141 hg w29 hbox hb
           have n0_ := aq (blk_below (g := gb131) (o := .cells #[.int .i64 0, .int .i64 0, .int .i64 0] 269 (0, 0)) (by (with_reducible repeat (first | refine blk_drewN ?_ _ | refine blk_drew ?_ | refine blk_alloc ?_ _)); exact BK131.out) hb)
           have n1_ := aq (below_step (by repeat (first | (with_reducible first | exact HB.out | apply below_alloc | apply pw_below_drewN | apply below_drew1 | refine below_set ?_ GE131.out) | exact HB.out)) hb)
           have n2_ := aq (hbox)
           have n3_ := aq ((by rw [hg]; exact (below_size (by repeat (first | (with_reducible first | exact HB.out | apply below_alloc | apply pw_below_drewN | apply below_drew1 | refine below_set ?_ GE131.out) | exact HB.out))) : w.heap.size ≤ gb141))
           have n4_ := aq ((by rw [hg]; exact (below_size (by repeat (first | (with_reducible first | exact HB.out | apply below_alloc | apply pw_below_drewN | apply below_drew1 | refine below_set ?_ GE131.out) | exact HB.out))) : w.heap.size ≤ gb141))
           have n5_ := aq ((by rw [hg]; exact Nat.ne_of_lt (blk_lt (g := gb131) (o := .cells #[.int .i64 0, .int .i64 0, .int .i64 0] 269 (0, 0)) (by (with_reducible repeat (first | refine blk_drewN ?_ _ | refine blk_drew ?_ | refine blk_alloc ?_ _)); exact BK131.out)) : gb131 ≠ gb141))
           have n6_ := aq ((by rw [hg]; exact Nat.ne_of_gt (blk_lt (g := gb131) (o := .cells #[.int .i64 0, .int .i64 0, .int .i64 0] 269 (0, 0)) (by (with_reducible repeat (first | refine blk_drewN ?_ _ | refine blk_drew ?_ | refine blk_alloc ?_ _)); exact BK131.out)) : gb141 ≠ gb131))
           clear BK131
           clear HB
           have BK131 := n0_
           have HB := n1_
           have BK141 := n2_
           have GW141 := n3_
           have GE141 := n4_
           have NB131_141 := n5_
           have NB141_131 := n6_
           clear n0_ n1_ n2_ n3_ n4_ n5_ n6_
           clear hb hbox hg
           refine hK.out _ _ trivial (fun hHeld => ?_)
           clear hK K
           refine norm_ (a' := ?_) ?_ ?_
           rotate_left
           ·
            show Act.put _ (some 8) _ = _
            simp only [qa_, qb_, qc_, qd_, i64_w, i32_w]
            rfl
           refine one_ (i := 8) (N := some 58) bb0_14 rfl rfl (one_of HT_.out (by kernel_rfl)) (by decide) (fun K hK => ?_)
           refine goes_ Tryz.func250 (by kernel_rfl) rfl #[.int .i64 t132] (by rfl) rfl rfl (by (try simp only [List.map_toArray, List.map_cons, List.map_nil]); first | done | rfl | (simp only [List.length_drop, List.length_take]; rfl)) ?_
           with_reducible refine (mask_front.calls t132 t140 _ A24.out).mono ?_
           rintro e w' ⟨rfl, ⟨nd, rfl⟩⟩
           refine ⟨_, rfl, ?_⟩
           refine hK.out _ _ trivial (fun hHeld => ?_)
           clear hK K
           refine norm_ (a' := ?_) ?_ ?_
           rotate_left
           ·
            show Act.put _ (some 58) _ = _
            simp only [qa_, qb_, qc_, qd_, i64_w, i32_w]
            rfl
           refine pure_ (i := 9) (N := some 59) (v := ?_) (a' := ?_) bb0_15 rfl rfl (any_of HT_.out (by kernel_rfl)) (fun _ _ _ h => h) (Or.inl ⟨by rfl, ?_⟩) ?_ ?_
           rotate_left
           · intro w'; go_simp; with_reducible rfl
           rotate_left
           · simp only [qa_, qb_, qc_, qd_, i64_w, i32_w]; rfl
           refine pure_ (i := 10) (N := some 60) (v := ?_) (a' := ?_) bb0_9 rfl rfl (any_of HT_.out (by kernel_rfl)) (fun _ _ _ h => h) (Or.inl ⟨by rfl, ?_⟩) ?_ ?_
           rotate_left
           · intro w'; go_simp; with_reducible rfl
           rotate_left
           · simp only [qa_, qb_, qc_, qd_, i64_w, i32_w]; rfl
           exact norm_ (by simp only [putAll, Act.put, List.setIfInBounds_toArray, List.set_cons_zero, List.set_cons_succ]) (hCont (gb141) _ ⟨(by (with_reducible repeat (first | refine blk_drewN ?_ _ | refine blk_drew ?_ | refine blk_alloc ?_ _)); exact BK131.out), (by (with_reducible repeat (first | refine blk_drewN ?_ _ | refine blk_drew ?_ | refine blk_alloc ?_ _)); exact BK141.out), GW141.out, GE141.out, NB131_141.out, NB141_131.out, (by repeat (first | (with_reducible first | exact HB.out | apply below_alloc | apply pw_below_drewN | apply below_drew1 | refine below_set ?_ GE131.out | refine below_set ?_ GE141.out) | exact HB.out))⟩)
         rintro gb141 w30 ⟨h0_, h1_, h2_, h3_, h4_, h5_, h6_⟩
         have n0_ : Aside0 (w30.heap[gb131]? = some (.cells #[.int .i64 0, .int .i64 0, .int .i64 0] 269 (0, 0))) := ⟨h0_⟩
         have n1_ : Aside0 (w30.heap[gb141]? = some (.cells #[.int .i64 0, .int .i64 0, .int .i64 0] 269 (0, 0))) := ⟨h1_⟩
         have n2_ : Aside0 (w.heap.size ≤ gb141) := ⟨h2_⟩
         have n3_ : Aside0 (w.heap.size ≤ gb141) := ⟨h3_⟩
         have n4_ : Aside0 (gb131 ≠ gb141) := ⟨h4_⟩
         have n5_ : Aside0 (gb141 ≠ gb131) := ⟨h5_⟩
         have n6_ : Aside0 (Below w.heap.size w w30) := ⟨h6_⟩
         clear BK131
         clear HB
         clear h0_ h1_ h2_ h3_ h4_ h5_ h6_
         have BK131 := n0_
         have BK141 := n1_
         have GW141 := n2_
         have GE141 := n3_
         have NB131_141 := n4_
         have NB141_131 := n5_
         have HB := n6_
         clear n0_ n1_ n2_ n3_ n4_ n5_ n6_
         have hHeld := trivial
         refine norm_ (a' := ?_) ?_ ?_
         rotate_left
         ·
          simp only [putAll, Act.put, List.setIfInBounds_toArray, List.set_cons_zero, List.set_cons_succ]
          rfl
         refine one_ (i := 12) (N := none) bb0_16 rfl rfl (one_of HT_.out (by kernel_rfl)) (by decide) (fun K hK => ?_)
         have hs31 : w30.cell? ⟨gb141, 0, none⟩ = some (.int .i64 0) := (blk_cell BK141.out 0).trans rfl
         have hfs31 := blk_frozen BK141.out 0
         have hns31_0 := NB131_141.out
         have hms31_0 := NB141_131.out
         have hs32 : w30.cell? ⟨gb141, 1, none⟩ = some (.int .i64 0) := (blk_cell BK141.out 1).trans rfl
         have hfs32 := blk_frozen BK141.out 1
         have hns32_0 := NB131_141.out
         have hms32_0 := NB141_131.out
         have hs33 : w30.cell? ⟨gb141, 2, none⟩ = some (.int .i64 0) := (blk_cell BK141.out 2).trans rfl
         have hfs33 := blk_frozen BK141.out 2
         have hns33_0 := NB131_141.out
         have hms33_0 := NB141_131.out
         refine skip_ (w1 := ?_) (by rfl) rfl ?_ ?_
         rotate_left
         ·
          go_simp
          rfl
         refine hK.out _ _ trivial (fun hHeld => ?_)
         clear hK K
         refine done_ (done_of HT_.out (by kernel_rfl)) ?_
         have hnb34 := NB141_131.out
         have hnc34 := NB131_141.out
         have hcz35_0 : w30.cell? ⟨gb141, 0, none⟩ = some (.int .i64 0) := (blk_cell BK141.out 0).trans rfl
         have hcz35_1 : w30.cell? ⟨gb141, 1, none⟩ = some (.int .i64 0) := (blk_cell BK141.out 1).trans rfl
         have hcz35_2 : w30.cell? ⟨gb141, 2, none⟩ = some (.int .i64 0) := (blk_cell BK141.out 2).trans rfl
         have hfz35_0 := blk_frozen BK141.out 0
         have hfz35_1 := blk_frozen BK141.out 1
         have hfz35_2 := blk_frozen BK141.out 2
         have hcz36_0 : w30.cell? ⟨gb131, 0, none⟩ = some (.int .i64 0) := (blk_cell BK131.out 0).trans rfl
         have hcz36_1 : w30.cell? ⟨gb131, 1, none⟩ = some (.int .i64 0) := (blk_cell BK131.out 1).trans rfl
         have hcz36_2 : w30.cell? ⟨gb131, 2, none⟩ = some (.int .i64 0) := (blk_cell BK131.out 2).trans rfl
         have hfz36_0 := blk_frozen BK131.out 0
         have hfz36_1 := blk_frozen BK131.out 1
         have hfz36_2 := blk_frozen BK131.out 2
         try go_wp2
         refine bodyPost_ret (results_cell_row rfl _ _ gb131 269 #[.int .i64 1, .int .i64 (Int.tmod (wrap64 (t132 - x5_12)) t132), .int .i64 (wrap64 ((wrap64 (t134 - 1)) + t140))] (0, 0) _ rfl (by (with_reducible repeat (first | refine blk_drewN ?_ _ | refine blk_drew ?_ | refine blk_alloc ?_ _)); refine blk_put (cs := #[.int .i64 1, .int .i64 (Int.tmod (wrap64 (t132 - x5_12)) t132), .int .i64 0]) ?_ 2 _ rfl; (with_reducible repeat (first | refine blk_drewN ?_ _ | refine blk_drew ?_ | refine blk_alloc ?_ _)); refine blk_put (cs := #[.int .i64 1, .int .i64 0, .int .i64 0]) ?_ 1 _ rfl; (with_reducible repeat (first | refine blk_drewN ?_ _ | refine blk_drew ?_ | refine blk_alloc ?_ _)); refine blk_put (cs := #[.int .i64 0, .int .i64 0, .int .i64 0]) ?_ 0 _ rfl; (with_reducible repeat (first | refine blk_drewN ?_ _ | refine blk_drew ?_ | refine blk_alloc ?_ _)); refine blk_far ?_ NB131_141.out _; (with_reducible repeat (first | refine blk_drewN ?_ _ | refine blk_drew ?_ | refine blk_alloc ?_ _)); refine blk_far ?_ NB131_141.out _; (with_reducible repeat (first | refine blk_drewN ?_ _ | refine blk_drew ?_ | refine blk_alloc ?_ _)); refine blk_far ?_ NB131_141.out _; (with_reducible repeat (first | refine blk_drewN ?_ _ | refine blk_drew ?_ | refine blk_alloc ?_ _)); refine blk_far ?_ NB131_141.out _; (with_reducible repeat (first | refine blk_drewN ?_ _ | refine blk_drew ?_ | refine blk_alloc ?_ _)); exact BK131.out) Tryz.underlying269 rfl (by kernel_rfl)) rfl ?_
         exact ⟨by first | rfl | (simp [errW_none, errW_some] <;> rfl) | (simp [*, errW_none, errW_some] <;> rfl), by repeat (first | (with_reducible first | exact HB.out | apply below_alloc | apply pw_below_drewN | apply below_drew1 | refine below_set ?_ GE131.out | refine below_set ?_ GE141.out) | exact HB.out)⟩
        ·
         rw [if_neg c25] at H
         have c25b0 : (t132 == 64) = false := beq_eq_false_iff_ne.mpr c25
         have c25b1 : (t132 != 64) = true := bne_iff_ne.mpr c25
         simp only [Option.some.injEq, Prod.mk.injEq] at H
         obtain ⟨rfl, rfl, rfl⟩ := H
         try go_wp2_with (first | ((with_reducible refine gate_callee (f := 249) rfl ?_); refine goesL_ (some 42) rfl rfl Tryz.func249 (by kernel_rfl) rfl #[.int .u64 t133, .int .i64 x5_12, .int .i64 t132] rfl (by (try simp only [List.map_toArray, List.map_cons, List.map_nil]); first | done | rfl | (simp only [List.length_drop, List.length_take]; rfl)) ?_; (with_reducible refine (bits_Rotate.calls kj12 t133 x5_12 t132 t137 t138 _ A20.out).mono ?_); rintro e w37 ⟨rfl, hb⟩; refine ⟨_, rfl, ?_⟩; have n0_ := aq (blk_below (g := gb131) (o := .cells #[.int .i64 0, .int .i64 0, .int .i64 0] 269 (0, 0)) (by (with_reducible repeat (first | refine blk_drewN ?_ _ | refine blk_drew ?_ | refine blk_alloc ?_ _)); exact BK131.out) hb); have n1_ := aq (below_step (by repeat (first | (with_reducible first | exact HB.out | apply below_alloc | apply pw_below_drewN | apply below_drew1 | refine below_set ?_ GE131.out) | exact HB.out)) hb); clear BK131; clear HB; have BK131 := n0_; have HB := n1_; clear n0_ n1_; (try clear hb); (try clear hb2); (try clear hk); (try clear hi)) | ((with_reducible refine gate_callee (f := 111) rfl ?_); refine goesL_ (some 47) rfl rfl Tryz.func111 (by kernel_rfl) rfl #[.int .u64 18446744073709551615, .int .i64 t134] rfl (by (try simp only [List.map_toArray, List.map_cons, List.map_nil]); first | done | rfl | (simp only [List.length_drop, List.length_take]; rfl)) ?_; (with_reducible refine (bits_Low.calls 18446744073709551615 t134 t139 _ A21.out).mono ?_); rintro e w38 ⟨rfl, hb⟩; refine ⟨_, rfl, ?_⟩; have n0_ := aq (blk_below (g := gb131) (o := .cells #[.int .i64 0, .int .i64 0, .int .i64 0] 269 (0, 0)) (by (with_reducible repeat (first | refine blk_drewN ?_ _ | refine blk_drew ?_ | refine blk_alloc ?_ _)); exact BK131.out) hb); have n1_ := aq (below_step (by repeat (first | (with_reducible first | exact HB.out | apply below_alloc | apply pw_below_drewN | apply below_drew1 | refine below_set ?_ GE131.out) | exact HB.out)) hb); clear BK131; clear HB; have BK131 := n0_; have HB := n1_; clear n0_ n1_; (try clear hb); (try clear hb2); (try clear hk); (try clear hi)))
         have n0_ := aq (blk_drew BK131.out)
         have n1_ := aq (below_drew1 HB.out)
         clear BK131
         clear HB
         have BK131 := n0_
         have HB := n1_
         clear n0_ n1_
         refine start_ (n := 13) (S := fun w' => True) (ds := []) bb0_0 (by kernel_rfl) rfl rfl trivial (fun hHeld => ?_); refine with_tabW mask_tell.tab12 mask_tell.bits12 (fun HT_ HW_ => ?_)
         generalize w38.drew = w39 at BK131 HB hHeld ⊢
         refine pure_ (i := 0) (N := some 50) (v := ?_) (a' := ?_) bb0_1 rfl rfl (any_of HT_.out (by kernel_rfl)) (fun _ _ _ h => h) (Or.inl ⟨by rfl, ?_⟩) ?_ ?_
         rotate_left
         · intro w'; go_simp; with_reducible rfl
         rotate_left
         · simp only [qa_, qb_, qc_, qd_, i64_w, i32_w]; rfl
         refine pure_ (i := 1) (N := some 51) (v := ?_) (a' := ?_) bb0_2 rfl rfl (any_of HT_.out (by kernel_rfl)) (fun _ _ _ h => h) (Or.inl ⟨by rfl, ?_⟩) ?_ ?_
         rotate_left
         · intro w'; go_simp; with_reducible rfl
         rotate_left
         · simp only [qa_, qb_, qc_, qd_, i64_w, i32_w]; rfl
         refine pure_ (i := 2) (N := some 52) (v := ?_) (a' := ?_) bb0_3 rfl rfl (any_of HT_.out (by kernel_rfl)) (fun _ _ _ h => h) (Or.inl ⟨by rfl, ?_⟩) ?_ ?_
         rotate_left
         · intro w'; go_simp; with_reducible rfl
         rotate_left
         · simp only [qa_, qb_, qc_, qd_, i64_w, i32_w]; rfl
         refine pure_ (i := 3) (N := some 53) (v := ?_) (a' := ?_) bb0_4 rfl rfl (any_of HT_.out (by kernel_rfl)) (fun _ _ _ h => h) (Or.inl ⟨by rfl, ?_⟩) ?_ ?_
         rotate_left
         · intro w'; go_simp; with_reducible rfl
         rotate_left
         · simp only [qa_, qb_, qc_, qd_, i64_w, i32_w]; rfl
         refine pure_ (i := 4) (N := some 54) (v := ?_) (a' := ?_) bb0_5 rfl rfl (any_of HT_.out (by kernel_rfl)) (fun _ _ _ h => h) (Or.inl ⟨by rfl, ?_⟩) ?_ ?_
         rotate_left
         · intro w'; go_simp; with_reducible rfl
         rotate_left
         · simp only [qa_, qb_, qc_, qd_, i64_w, i32_w]; rfl
         refine pure_ (i := 5) (N := some 55) (v := ?_) (a' := ?_) bb0_6 rfl rfl (any_of HT_.out (by kernel_rfl)) (fun _ _ _ h => h) (Or.inl ⟨by rfl, ?_⟩) ?_ ?_
         rotate_left
         · intro w'; go_simp; with_reducible rfl
         rotate_left
         · simp only [qa_, qb_, qc_, qd_, i64_w, i32_w]; rfl
         refine pure_ (i := 6) (N := some 56) (v := ?_) (a' := ?_) bb0_7 rfl rfl (any_of HT_.out (by kernel_rfl)) (fun _ _ _ h => h) (Or.inl ⟨by rfl, ?_⟩) ?_ ?_
         rotate_left
         · intro w'; go_simp; with_reducible rfl
         rotate_left
         · simp only [qa_, qb_, qc_, qd_, i64_w, i32_w]; rfl
         refine pure_ (i := 7) (N := some 57) (v := ?_) (a' := ?_) bb0_8 rfl rfl (any_of HT_.out (by kernel_rfl)) (fun _ _ _ h => h) (Or.inl ⟨by rfl, ?_⟩) ?_ ?_
         rotate_left
         · intro w'; go_simp; with_reducible rfl
         rotate_left
         · simp only [qa_, qb_, qc_, qd_, i64_w, i32_w]; rfl
         refine join_ (σ := Nat) 1 bb0_9 (fun s_ => [(58, .int .i64 t140), (8, .pointer (some ⟨s_, 0, none⟩)), (59, .int .i64 (wrap64 ((wrap64 (t134 - 1)) + t140))), (60, .agg #[.int .i64 0, .int .i64 (Int.tmod (wrap64 (t132 - x5_12)) t132), .int .i64 (wrap64 ((wrap64 (t134 - 1)) + t140))])]) (fun s_ w' => (w'.heap[gb131]? = some (.cells #[.int .i64 0, .int .i64 0, .int .i64 0] 269 (0, 0))) ∧ (w'.heap[s_]? = some (.cells #[.int .i64 0, .int .i64 0, .int .i64 0] 269 (0, 0))) ∧ (w.heap.size ≤ s_) ∧ (w.heap.size ≤ s_) ∧ (gb131 ≠ s_) ∧ (s_ ≠ gb131) ∧ (Below w.heap.size w w')) ?_ ?_
         rotate_left
         ·
          intro hCont
          refine two_ (i := 8) (j := 11) (Ni := some 58) (Nj := some 8) bb0_10 bb0_11 rfl rfl rfl rfl (two_of HT_.out (by kernel_rfl)) (by decide) (by decide) (fun K hK => ?_) (fun K hK => ?_)
          ·
           skip
           refine goes_ Tryz.func250 (by kernel_rfl) rfl #[.int .i64 t132] (by rfl) rfl rfl (by (try simp only [List.map_toArray, List.map_cons, List.map_nil]); first | done | rfl | (simp only [List.length_drop, List.length_take]; rfl)) ?_
           with_reducible refine (mask_front.calls t132 t140 _ A24.out).mono ?_
           rintro e w' ⟨rfl, ⟨nd, rfl⟩⟩
           refine ⟨_, rfl, ?_⟩
           refine hK.out _ _ trivial (fun hHeld => ?_)
           clear hK K
           refine norm_ (a' := ?_) ?_ ?_
           rotate_left
           ·
            show Act.put _ (some 58) _ = _
            simp only [qa_, qb_, qc_, qd_, i64_w, i32_w]
            rfl
           refine pure_ (i := 9) (N := some 59) (v := ?_) (a' := ?_) bb0_12 rfl rfl (any_of HT_.out (by kernel_rfl)) (fun _ _ _ h => h) (Or.inl ⟨by rfl, ?_⟩) ?_ ?_
           rotate_left
           · intro w'; go_simp; with_reducible rfl
           rotate_left
           · simp only [qa_, qb_, qc_, qd_, i64_w, i32_w]; rfl
           refine pure_ (i := 10) (N := some 60) (v := ?_) (a' := ?_) bb0_13 rfl rfl (any_of HT_.out (by kernel_rfl)) (fun _ _ _ h => h) (Or.inl ⟨by rfl, ?_⟩) ?_ ?_
           rotate_left
           · intro w'; go_simp; with_reducible rfl
           rotate_left
           · simp only [qa_, qb_, qc_, qd_, i64_w, i32_w]; rfl
           refine one_ (i := 11) (N := some 8) bb0_9 rfl rfl (one_of HT_.out (by kernel_rfl)) (by decide) (fun K hK => ?_)
           refine box_step ?hg (N := 8) ?hd (cs := #[.int .i64 0, .int .i64 0, .int .i64 0]) (t := 269) ?hr ?_; (case hd => rfl); (case hg => rfl); (case hr => first | (go_simp; done) | (go_simp; rfl))
           intro gb141 hg w40 hbox hb
           have n0_ := aq (blk_below (g := gb131) (o := .cells #[.int .i64 0, .int .i64 0, .int .i64 0] 269 (0, 0)) (by (with_reducible repeat (first | refine blk_drewN ?_ _ | refine blk_drew ?_ | refine blk_alloc ?_ _)); exact BK131.out) hb)
           have n1_ := aq (below_step (by repeat (first | (with_reducible first | exact HB.out | apply below_alloc | apply pw_below_drewN | apply below_drew1 | refine below_set ?_ GE131.out) | exact HB.out)) hb)
           have n2_ := aq (hbox)
           have n3_ := aq ((by rw [hg]; exact (below_size (by repeat (first | (with_reducible first | exact HB.out | apply below_alloc | apply pw_below_drewN | apply below_drew1 | refine below_set ?_ GE131.out) | exact HB.out))) : w.heap.size ≤ gb141))
           have n4_ := aq ((by rw [hg]; exact (below_size (by repeat (first | (with_reducible first | exact HB.out | apply below_alloc | apply pw_below_drewN | apply below_drew1 | refine below_set ?_ GE131.out) | exact HB.out))) : w.heap.size ≤ gb141))
           have n5_ := aq ((by rw [hg]; exact Nat.ne_of_lt (blk_lt (g := gb131) (o := .cells #[.int .i64 0, .int .i64 0, .int .i64 0] 269 (0, 0)) (by (with_reducible repeat (first | refine blk_drewN ?_ _ | refine blk_drew ?_ | refine blk_alloc ?_ _)); exact BK131.out)) : gb131 ≠ gb141))
           have n6_ := aq ((by rw [hg]; exact Nat.ne_of_gt (blk_lt (g := gb131) (o := .cells #[.int .i64 0, .int .i64 0, .int .i64 0] 269 (0, 0)) (by (with_reducible repeat (first | refine blk_drewN ?_ _ | refine blk_drew ?_ | refine blk_alloc ?_ _)); exact BK131.out)) : gb141 ≠ gb131))
           clear BK131
           clear HB
           have BK131 := n0_
           have HB := n1_
           have BK141 := n2_
           have GW141 := n3_
           have GE141 := n4_
           have NB131_141 := n5_
           have NB141_131 := n6_
           clear n0_ n1_ n2_ n3_ n4_ n5_ n6_
           clear hb hbox hg
           refine hK.out _ _ trivial (fun hHeld => ?_)
           clear hK K
           refine norm_ (a' := ?_) ?_ ?_
           rotate_left
           ·
            show Act.put _ (some 8) _ = _
            simp only [qa_, qb_, qc_, qd_, i64_w, i32_w]
            rfl
           exact norm_ (by simp only [putAll, Act.put, List.setIfInBounds_toArray, List.set_cons_zero, List.set_cons_succ]) (hCont (gb141) _ ⟨(by (with_reducible repeat (first | refine blk_drewN ?_ _ | refine blk_drew ?_ | refine blk_alloc ?_ _)); exact BK131.out), (by (with_reducible repeat (first | refine blk_drewN ?_ _ | refine blk_drew ?_ | refine blk_alloc ?_ _)); exact BK141.out), GW141.out, GE141.out, NB131_141.out, NB141_131.out, (by repeat (first | (with_reducible first | exact HB.out | apply below_alloc | apply pw_below_drewN | apply below_drew1 | refine below_set ?_ GE131.out | refine below_set ?_ GE141.out) | exact HB.out))⟩)
          ·
           skip
           refine box_step ?hg (N := 8) ?hd (cs := #[.int .i64 0, .int .i64 0, .int .i64 0]) (t := 269) ?hr ?_; (case hd => rfl); (case hg => rfl); (case hr => first | (go_simp; done) | (go_simp; rfl))
           intro gb141 hg w40 hbox hb
           have n0_ := aq (blk_below (g := gb131) (o := .cells #[.int .i64 0, .int .i64 0, .int .i64 0] 269 (0, 0)) (by (with_reducible repeat (first | refine blk_drewN ?_ _ | refine blk_drew ?_ | refine blk_alloc ?_ _)); exact BK131.out) hb)
           have n1_ := aq (below_step (by repeat (first | (with_reducible first | exact HB.out | apply below_alloc | apply pw_below_drewN | apply below_drew1 | refine below_set ?_ GE131.out) | exact HB.out)) hb)
           have n2_ := aq (hbox)
           have n3_ := aq ((by rw [hg]; exact (below_size (by repeat (first | (with_reducible first | exact HB.out | apply below_alloc | apply pw_below_drewN | apply below_drew1 | refine below_set ?_ GE131.out) | exact HB.out))) : w.heap.size ≤ gb141))
           have n4_ := aq ((by rw [hg]; exact (below_size (by repeat (first | (with_reducible first | exact HB.out | apply below_alloc | apply pw_below_drewN | apply below_drew1 | refine below_set ?_ GE131.out) | exact HB.out))) : w.heap.size ≤ gb141))
           have n5_ := aq ((by rw [hg]; exact Nat.ne_of_lt (blk_lt (g := gb131) (o := .cells #[.int .i64 0, .int .i64 0, .int .i64 0] 269 (0, 0)) (by (with_reducible repeat (first | refine blk_drewN ?_ _ | refine blk_drew ?_ | refine blk_alloc ?_ _)); exact BK131.out)) : gb131 ≠ gb141))
           have n6_ := aq ((by rw [hg]; exact Nat.ne_of_gt (blk_lt (g := gb131) (o := .cells #[.int .i64 0, .int .i64 0, .int .i64 0] 269 (0, 0)) (by (with_reducible repeat (first | refine blk_drewN ?_ _ | refine blk_drew ?_ | refine blk_alloc ?_ _)); exact BK131.out)) : gb141 ≠ gb131))
           clear BK131
           clear HB
           have BK131 := n0_
           have HB := n1_
           have BK141 := n2_
           have GW141 := n3_
           have GE141 := n4_
           have NB131_141 := n5_
           have NB141_131 := n6_
           clear n0_ n1_ n2_ n3_ n4_ n5_ n6_
           clear hb hbox hg
           refine hK.out _ _ trivial (fun hHeld => ?_)
           clear hK K
           refine norm_ (a' := ?_) ?_ ?_
           rotate_left
           ·
            show Act.put _ (some 8) _ = _
            simp only [qa_, qb_, qc_, qd_, i64_w, i32_w]
            rfl
           refine one_ (i := 8) (N := some 58) bb0_14 rfl rfl (one_of HT_.out (by kernel_rfl)) (by decide) (fun K hK => ?_)
           refine goes_ Tryz.func250 (by kernel_rfl) rfl #[.int .i64 t132] (by rfl) rfl rfl (by (try simp only [List.map_toArray, List.map_cons, List.map_nil]); first | done | rfl | (simp only [List.length_drop, List.length_take]; rfl)) ?_
           with_reducible refine (mask_front.calls t132 t140 _ A24.out).mono ?_
           rintro e w' ⟨rfl, ⟨nd, rfl⟩⟩
           refine ⟨_, rfl, ?_⟩
           refine hK.out _ _ trivial (fun hHeld => ?_)
           clear hK K
           refine norm_ (a' := ?_) ?_ ?_
           rotate_left
           ·
            show Act.put _ (some 58) _ = _
            simp only [qa_, qb_, qc_, qd_, i64_w, i32_w]
            rfl
           refine pure_ (i := 9) (N := some 59) (v := ?_) (a' := ?_) bb0_15 rfl rfl (any_of HT_.out (by kernel_rfl)) (fun _ _ _ h => h) (Or.inl ⟨by rfl, ?_⟩) ?_ ?_
           rotate_left
           · intro w'; go_simp; with_reducible rfl
           rotate_left
           · simp only [qa_, qb_, qc_, qd_, i64_w, i32_w]; rfl
           refine pure_ (i := 10) (N := some 60) (v := ?_) (a' := ?_) bb0_9 rfl rfl (any_of HT_.out (by kernel_rfl)) (fun _ _ _ h => h) (Or.inl ⟨by rfl, ?_⟩) ?_ ?_
           rotate_left
           · intro w'; go_simp; with_reducible rfl
           rotate_left
           · simp only [qa_, qb_, qc_, qd_, i64_w, i32_w]; rfl
           exact norm_ (by simp only [putAll, Act.put, List.setIfInBounds_toArray, List.set_cons_zero, List.set_cons_succ]) (hCont (gb141) _ ⟨(by (with_reducible repeat (first | refine blk_drewN ?_ _ | refine blk_drew ?_ | refine blk_alloc ?_ _)); exact BK131.out), (by (with_reducible repeat (first | refine blk_drewN ?_ _ | refine blk_drew ?_ | refine blk_alloc ?_ _)); exact BK141.out), GW141.out, GE141.out, NB131_141.out, NB141_131.out, (by repeat (first | (with_reducible first | exact HB.out | apply below_alloc | apply pw_below_drewN | apply below_drew1 | refine below_set ?_ GE131.out | refine below_set ?_ GE141.out) | exact HB.out))⟩)
         rintro gb141 w41 ⟨h0_, h1_, h2_, h3_, h4_, h5_, h6_⟩
         have n0_ : Aside0 (w41.heap[gb131]? = some (.cells #[.int .i64 0, .int .i64 0, .int .i64 0] 269 (0, 0))) := ⟨h0_⟩
         have n1_ : Aside0 (w41.heap[gb141]? = some (.cells #[.int .i64 0, .int .i64 0, .int .i64 0] 269 (0, 0))) := ⟨h1_⟩
         have n2_ : Aside0 (w.heap.size ≤ gb141) := ⟨h2_⟩
         have n3_ : Aside0 (w.heap.size ≤ gb141) := ⟨h3_⟩
         have n4_ : Aside0 (gb131 ≠ gb141) := ⟨h4_⟩
         have n5_ : Aside0 (gb141 ≠ gb131) := ⟨h5_⟩
         have n6_ : Aside0 (Below w.heap.size w w41) := ⟨h6_⟩
         clear BK131
         clear HB
         clear h0_ h1_ h2_ h3_ h4_ h5_ h6_
         have BK131 := n0_
         have BK141 := n1_
         have GW141 := n2_
         have GE141 := n3_
         have NB131_141 := n4_
         have NB141_131 := n5_
         have HB := n6_
         clear n0_ n1_ n2_ n3_ n4_ n5_ n6_
         have hHeld := trivial
         refine norm_ (a' := ?_) ?_ ?_
         rotate_left
         ·
          simp only [putAll, Act.put, List.setIfInBounds_toArray, List.set_cons_zero, List.set_cons_succ]
          rfl
         refine one_ (i := 12) (N := none) bb0_16 rfl rfl (one_of HT_.out (by kernel_rfl)) (by decide) (fun K hK => ?_)
         have hs42 : w41.cell? ⟨gb141, 0, none⟩ = some (.int .i64 0) := (blk_cell BK141.out 0).trans rfl
         have hfs42 := blk_frozen BK141.out 0
         have hns42_0 := NB131_141.out
         have hms42_0 := NB141_131.out
         have hs43 : w41.cell? ⟨gb141, 1, none⟩ = some (.int .i64 0) := (blk_cell BK141.out 1).trans rfl
         have hfs43 := blk_frozen BK141.out 1
         have hns43_0 := NB131_141.out
         have hms43_0 := NB141_131.out
         have hs44 : w41.cell? ⟨gb141, 2, none⟩ = some (.int .i64 0) := (blk_cell BK141.out 2).trans rfl
         have hfs44 := blk_frozen BK141.out 2
         have hns44_0 := NB131_141.out
         have hms44_0 := NB141_131.out
         refine skip_ (w1 := ?_) (by rfl) rfl ?_ ?_
         rotate_left
         ·
          go_simp
          rfl
         refine hK.out _ _ trivial (fun hHeld => ?_)
         clear hK K
         refine done_ (done_of HT_.out (by kernel_rfl)) ?_
         have hnb45 := NB141_131.out
         have hnc45 := NB131_141.out
         have hcz46_0 : w41.cell? ⟨gb141, 0, none⟩ = some (.int .i64 0) := (blk_cell BK141.out 0).trans rfl
         have hcz46_1 : w41.cell? ⟨gb141, 1, none⟩ = some (.int .i64 0) := (blk_cell BK141.out 1).trans rfl
         have hcz46_2 : w41.cell? ⟨gb141, 2, none⟩ = some (.int .i64 0) := (blk_cell BK141.out 2).trans rfl
         have hfz46_0 := blk_frozen BK141.out 0
         have hfz46_1 := blk_frozen BK141.out 1
         have hfz46_2 := blk_frozen BK141.out 2
         have hcz47_0 : w41.cell? ⟨gb131, 0, none⟩ = some (.int .i64 0) := (blk_cell BK131.out 0).trans rfl
         have hcz47_1 : w41.cell? ⟨gb131, 1, none⟩ = some (.int .i64 0) := (blk_cell BK131.out 1).trans rfl
         have hcz47_2 : w41.cell? ⟨gb131, 2, none⟩ = some (.int .i64 0) := (blk_cell BK131.out 2).trans rfl
         have hfz47_0 := blk_frozen BK131.out 0
         have hfz47_1 := blk_frozen BK131.out 1
         have hfz47_2 := blk_frozen BK131.out 2
         try go_wp2
         refine bodyPost_ret (results_cell_row rfl _ _ gb131 269 #[.int .i64 0, .int .i64 (Int.tmod (wrap64 (t132 - x5_12)) t132), .int .i64 (wrap64 ((wrap64 (t134 - 1)) + t140))] (0, 0) _ rfl (by (with_reducible repeat (first | refine blk_drewN ?_ _ | refine blk_drew ?_ | refine blk_alloc ?_ _)); refine blk_put (cs := #[.int .i64 0, .int .i64 (Int.tmod (wrap64 (t132 - x5_12)) t132), .int .i64 0]) ?_ 2 _ rfl; (with_reducible repeat (first | refine blk_drewN ?_ _ | refine blk_drew ?_ | refine blk_alloc ?_ _)); refine blk_put (cs := #[.int .i64 0, .int .i64 0, .int .i64 0]) ?_ 1 _ rfl; (with_reducible repeat (first | refine blk_drewN ?_ _ | refine blk_drew ?_ | refine blk_alloc ?_ _)); refine blk_put (cs := #[.int .i64 0, .int .i64 0, .int .i64 0]) ?_ 0 _ rfl; (with_reducible repeat (first | refine blk_drewN ?_ _ | refine blk_drew ?_ | refine blk_alloc ?_ _)); refine blk_far ?_ NB131_141.out _; (with_reducible repeat (first | refine blk_drewN ?_ _ | refine blk_drew ?_ | refine blk_alloc ?_ _)); refine blk_far ?_ NB131_141.out _; (with_reducible repeat (first | refine blk_drewN ?_ _ | refine blk_drew ?_ | refine blk_alloc ?_ _)); refine blk_far ?_ NB131_141.out _; (with_reducible repeat (first | refine blk_drewN ?_ _ | refine blk_drew ?_ | refine blk_alloc ?_ _)); exact BK131.out) Tryz.underlying269 rfl (by kernel_rfl)) rfl ?_
         exact ⟨by first | rfl | (simp [errW_none, errW_some] <;> rfl) | (simp [*, errW_none, errW_some] <;> rfl), by repeat (first | (with_reducible first | exact HB.out | apply below_alloc | apply pw_below_drewN | apply below_drew1 | refine below_set ?_ GE131.out | refine below_set ?_ GE141.out) | exact HB.out)⟩
      ·
       rw [if_neg c22] at H
       have c22b0 : (t137 == t139) = false := beq_eq_false_iff_ne.mpr c22
       have c22b1 : (t137 != t139) = true := bne_iff_ne.mpr c22
       simp only [Option.some.injEq, Prod.mk.injEq] at H
       obtain ⟨rfl, rfl, rfl⟩ := H
       go_wp2_with (first | ((with_reducible refine gate_callee (f := 249) rfl ?_); refine goesL_ (some 42) rfl rfl Tryz.func249 (by kernel_rfl) rfl #[.int .u64 t133, .int .i64 x5_12, .int .i64 t132] rfl (by (try simp only [List.map_toArray, List.map_cons, List.map_nil]); first | done | rfl | (simp only [List.length_drop, List.length_take]; rfl)) ?_; (with_reducible refine (bits_Rotate.calls kj12 t133 x5_12 t132 t137 t138 _ A20.out).mono ?_); rintro e w48 ⟨rfl, hb⟩; refine ⟨_, rfl, ?_⟩; have n0_ := aq (blk_below (g := gb131) (o := .cells #[.int .i64 0, .int .i64 0, .int .i64 0] 269 (0, 0)) (by (with_reducible repeat (first | refine blk_drewN ?_ _ | refine blk_drew ?_ | refine blk_alloc ?_ _)); exact BK131.out) hb); have n1_ := aq (below_step (by repeat (first | (with_reducible first | exact HB.out | apply below_alloc | apply pw_below_drewN | apply below_drew1 | refine below_set ?_ GE131.out) | exact HB.out)) hb); clear BK131; clear HB; have BK131 := n0_; have HB := n1_; clear n0_ n1_; (try clear hb); (try clear hb2); (try clear hk); (try clear hi)) | ((with_reducible refine gate_callee (f := 111) rfl ?_); refine goesL_ (some 47) rfl rfl Tryz.func111 (by kernel_rfl) rfl #[.int .u64 18446744073709551615, .int .i64 t134] rfl (by (try simp only [List.map_toArray, List.map_cons, List.map_nil]); first | done | rfl | (simp only [List.length_drop, List.length_take]; rfl)) ?_; (with_reducible refine (bits_Low.calls 18446744073709551615 t134 t139 _ A21.out).mono ?_); rintro e w49 ⟨rfl, hb⟩; refine ⟨_, rfl, ?_⟩; have n0_ := aq (blk_below (g := gb131) (o := .cells #[.int .i64 0, .int .i64 0, .int .i64 0] 269 (0, 0)) (by (with_reducible repeat (first | refine blk_drewN ?_ _ | refine blk_drew ?_ | refine blk_alloc ?_ _)); exact BK131.out) hb); have n1_ := aq (below_step (by repeat (first | (with_reducible first | exact HB.out | apply below_alloc | apply pw_below_drewN | apply below_drew1 | refine below_set ?_ GE131.out) | exact HB.out)) hb); clear BK131; clear HB; have BK131 := n0_; have HB := n1_; clear n0_ n1_; (try clear hb); (try clear hb2); (try clear hk); (try clear hi); obtain ⟨hcz50_0, hcz50_1, hcz50_2⟩ := cells3_ BK131.out; have hfz50_0 := fun j => blk_frozen BK131.out j))
       refine bodyPost_ret (results_cell_row rfl _ _ gb131 269 #[.int .i64 0, .int .i64 0, .int .i64 0] (0, 0) _ rfl (by (with_reducible repeat (first | refine blk_drewN ?_ _ | refine blk_drew ?_ | refine blk_alloc ?_ _)); refine blk_put (cs := #[.int .i64 0, .int .i64 0, .int .i64 0]) ?_ 2 _ rfl; (with_reducible repeat (first | refine blk_drewN ?_ _ | refine blk_drew ?_ | refine blk_alloc ?_ _)); refine blk_put (cs := #[.int .i64 0, .int .i64 0, .int .i64 0]) ?_ 1 _ rfl; (with_reducible repeat (first | refine blk_drewN ?_ _ | refine blk_drew ?_ | refine blk_alloc ?_ _)); refine blk_put (cs := #[.int .i64 0, .int .i64 0, .int .i64 0]) ?_ 0 _ rfl; (with_reducible repeat (first | refine blk_drewN ?_ _ | refine blk_drew ?_ | refine blk_alloc ?_ _)); exact BK131.out) Tryz.underlying269 rfl (by kernel_rfl)) rfl ?_
       exact ⟨by first | rfl | (simp [errW_none, errW_some] <;> rfl) | (simp [*, errW_none, errW_some] <;> rfl), by repeat (first | (with_reducible first | exact HB.out | apply below_alloc | apply pw_below_drewN | apply below_drew1 | refine below_set ?_ GE131.out) | exact HB.out)⟩
def mask_Is.f (k : Nat) (a0 : Int) : Option (Bool) := (mask_tell.f k a0).bind fun bt142 => (if (!(bt142.1 == 0) || (!(bt142.2.1 == 0) || (!(bt142.2.2 == 0)))) = true then (some true) else (some (a0 == 4294967297)))
set_option maxHeartbeats 8000000 in
set_option maxRecDepth 100000 in
theorem mask_Is.calls (k : Nat) (a0 : Int) (r : Bool) (w : World) (h : mask_Is.f k a0 = some r) (hTab : TabW w := by first | exact hTab | exact TabW.drew hTab | exact TabW.drewN hTab _ | exact TabW.below hTab (by repeat (first | (with_reducible first | exact HB.out | apply below_alloc | apply pw_below_drewN | apply below_drew1) | refine Below.setCell ?_ (Aside0.out (by assumption)) _ | exact HB.out | exact Below.refl _ _))) :
    Calls Tryz.prog 142 #[.int .u64 a0] w fun e w' => e = .returned (.bool r) ∧ Below w.heap.size w w' := by
 have hu269 := Tryz.underlying269
 have HB := aq (Below.refl w.heap.size w)
 have H : ((mask_tell.f k a0).bind fun bt142 => (if (!(bt142.1 == 0) || (!(bt142.2.1 == 0) || (!(bt142.2.2 == 0)))) = true then (some true) else (some (a0 == 4294967297)))) = some r := h
 clear h
 replace H := Option.bind_eq_some_iff.mp H
 obtain ⟨⟨t142, t143, t144⟩, A20, H⟩ := H
 replace H : (if (!(t142 == 0) || (!(t143 == 0) || (!(t144 == 0)))) = true then (some true) else (some (a0 == 4294967297))) = some r := H
 have A2 := aq A20
 clear A20
 by_cases c3 : (!(t142 == 0) || (!(t143 == 0) || (!(t144 == 0)))) = true
 ·
  rw [if_pos c3] at H
  have c3b0 : (!(t142 == 0) || (!(t143 == 0) || (!(t144 == 0)))) = true := c3
  clear c3
  obtain rfl := Option.some.inj H
  go_enter Tryz.func142, Tryz.ntmps142
  go_wp2_with (first | ((with_reducible refine gate_callee (f := 191) rfl ?_); refine goesL_ (some 4) rfl rfl Tryz.func191 (by kernel_rfl) rfl #[.int .u64 a0] rfl (by (try simp only [List.map_toArray, List.map_cons, List.map_nil]); first | done | rfl | (simp only [List.length_drop, List.length_take]; rfl)) ?_; (with_reducible refine (mask_tell.calls k a0 t142 t143 t144 _ A2.out).mono ?_); rintro e w4 ⟨rfl, hb⟩; refine ⟨_, rfl, ?_⟩; have n0_ := aq (below_step (by repeat (first | (with_reducible first | exact HB.out | apply below_alloc | apply pw_below_drewN | apply below_drew1) | exact HB.out)) hb); clear HB; have HB := n0_; clear n0_; (try clear hb); (try clear hb2); (try clear hk); (try clear hi)))
  go_ret
  exact ⟨by first | rfl | (simp [errW_none, errW_some] <;> rfl) | (simp [*, errW_none, errW_some] <;> rfl), by repeat (first | (with_reducible first | exact HB.out | apply below_alloc | apply pw_below_drewN | apply below_drew1) | exact HB.out)⟩
 ·
  rw [if_neg c3] at H
  have c3b0 : (!(t142 == 0) || (!(t143 == 0) || (!(t144 == 0)))) = false := by simpa using c3
  clear c3
  obtain rfl := Option.some.inj H
  go_enter Tryz.func142, Tryz.ntmps142
  go_wp2_with (first | ((with_reducible refine gate_callee (f := 191) rfl ?_); refine goesL_ (some 4) rfl rfl Tryz.func191 (by kernel_rfl) rfl #[.int .u64 a0] rfl (by (try simp only [List.map_toArray, List.map_cons, List.map_nil]); first | done | rfl | (simp only [List.length_drop, List.length_take]; rfl)) ?_; (with_reducible refine (mask_tell.calls k a0 t142 t143 t144 _ A2.out).mono ?_); rintro e w5 ⟨rfl, hb⟩; refine ⟨_, rfl, ?_⟩; have n0_ := aq (below_step (by repeat (first | (with_reducible first | exact HB.out | apply below_alloc | apply pw_below_drewN | apply below_drew1) | exact HB.out)) hb); clear HB; have HB := n0_; clear n0_; (try clear hb); (try clear hb2); (try clear hk); (try clear hi)))
  go_ret
  exact ⟨by first | rfl | (simp [errW_none, errW_some] <;> rfl) | (simp [*, errW_none, errW_some] <;> rfl), by repeat (first | (with_reducible first | exact HB.out | apply below_alloc | apply pw_below_drewN | apply below_drew1) | exact HB.out)⟩
end Go.Proofs.YtflojfcioojgbaaGreatDoor.P
namespace Go.Proofs.YtflojfcioojgbaaGreatDoor.P
open Go.RowKit Go.Proofs.YtflojfcioojgbaaGreatDoorW.PrintWords Go.Proofs.YtflojfcioojgbaaGreatDoorW.PrintLast Go.Proofs.YtflojfcioojgbaaGreatDoorW.PrintMore
attribute [local go_sem] max2_int min2_int max_two min_two max_three min_three max_four min_four
set_option linter.unusedVariables false
set_option linter.unusedSimpArgs false
mutual
def inst_Is.j0 : Nat → Int → Bool → Int → Int → Int → Int → Int → Int → Int → Int → Int → Int → Bool → Bool → Bool → Bool → Int → Int → Int → Int → Int → Int → Int → Bool → Option (Bool)
 | 0, _, _, _, _, _, _, _, _, _, _, _, _, _, _, _, _, _, _, _, _, _, _, _, _ => none
 | k + 1, x3, x5, x146000, x146001, x146002, x146003, x146004, x146005, x146006, x146007, x146008, x146009, x160000, x160001, x160002, x160003, x160004, x160005, x160006, x160007, x160008, x160009, x160010, x160011 => (inst_step.f x146005 x160004 x160005 x160006).bind fun t164 => (if t164 = true then ((inst_step.f x146008 0 x160007 x160008).bind fun t165 => (if t165 = true then (if x146007 ≥ 0 then (if x146007 ≤ x160009 then (if x146009 ≥ 0 then (inst_Is.j1 k x3 x5 (decide (x146009 ≤ x160010)) x146000 x146001 x146002 x146003 x146004 x146005 x146006 x146007 x146008 x146009) else (inst_Is.j1 k x3 x5 false x146000 x146001 x146002 x146003 x146004 x146005 x146006 x146007 x146008 x146009)) else (inst_Is.j1 k x3 x5 false x146000 x146001 x146002 x146003 x146004 x146005 x146006 x146007 x146008 x146009)) else (inst_Is.j1 k x3 x5 false x146000 x146001 x146002 x146003 x146004 x146005 x146006 x146007 x146008 x146009)) else (inst_Is.j1 k x3 x5 false x146000 x146001 x146002 x146003 x146004 x146005 x146006 x146007 x146008 x146009))) else (inst_Is.j1 k x3 x5 false x146000 x146001 x146002 x146003 x146004 x146005 x146006 x146007 x146008 x146009))
def inst_Is.j1 : Nat → Int → Bool → Bool → Int → Int → Int → Int → Int → Int → Int → Int → Int → Int → Option (Bool)
 | 0, _, _, _, _, _, _, _, _, _, _, _, _, _ => none
 | k + 1, x3, x5, x6, x146000, x146001, x146002, x146003, x146004, x146005, x146006, x146007, x146008, x146009 => if x3 = 3 then (if x5 = true then (if x6 = true then ((mask_Is.f k x146006).bind fun t166 => (some t166)) else (some false)) else (some false)) else (if x5 = true then (if x6 = true then (some (x146006 == 0)) else (some false)) else (some false))
end
def inst_Is.f (k : Nat) (a0_0 : Int) (a0_1 : Int) (a0_2 : Int) (a0_3 : Int) (a0_4 : Int) (a0_5 : Int) (a0_6 : Int) (a0_7 : Int) (a0_8 : Int) (a0_9 : Int) : Option (Bool) := (inst_Shape.f a0_0).bind fun t146 => (if t146 = 0 then (some false) else ((inst_shapeOf.f t146).bind fun bt147 => ((inst_register.f bt147.1 a0_1).bind fun t160 => (if t160 = true then ((inst_register.f bt147.2.1 a0_2).bind fun t161 => (if t161 = true then ((inst_register.f bt147.2.2.1 a0_3).bind fun t162 => (if t162 = true then ((inst_register.f bt147.2.2.2.1 a0_4).bind fun t163 => (inst_Is.j0 k t146 t163 a0_0 a0_1 a0_2 a0_3 a0_4 a0_5 a0_6 a0_7 a0_8 a0_9 bt147.1 bt147.2.1 bt147.2.2.1 bt147.2.2.2.1 bt147.2.2.2.2.1 bt147.2.2.2.2.2.1 bt147.2.2.2.2.2.2.1 bt147.2.2.2.2.2.2.2.1 bt147.2.2.2.2.2.2.2.2.1 bt147.2.2.2.2.2.2.2.2.2.1 bt147.2.2.2.2.2.2.2.2.2.2.1 bt147.2.2.2.2.2.2.2.2.2.2.2)) else (inst_Is.j0 k t146 false a0_0 a0_1 a0_2 a0_3 a0_4 a0_5 a0_6 a0_7 a0_8 a0_9 bt147.1 bt147.2.1 bt147.2.2.1 bt147.2.2.2.1 bt147.2.2.2.2.1 bt147.2.2.2.2.2.1 bt147.2.2.2.2.2.2.1 bt147.2.2.2.2.2.2.2.1 bt147.2.2.2.2.2.2.2.2.1 bt147.2.2.2.2.2.2.2.2.2.1 bt147.2.2.2.2.2.2.2.2.2.2.1 bt147.2.2.2.2.2.2.2.2.2.2.2))) else (inst_Is.j0 k t146 false a0_0 a0_1 a0_2 a0_3 a0_4 a0_5 a0_6 a0_7 a0_8 a0_9 bt147.1 bt147.2.1 bt147.2.2.1 bt147.2.2.2.1 bt147.2.2.2.2.1 bt147.2.2.2.2.2.1 bt147.2.2.2.2.2.2.1 bt147.2.2.2.2.2.2.2.1 bt147.2.2.2.2.2.2.2.2.1 bt147.2.2.2.2.2.2.2.2.2.1 bt147.2.2.2.2.2.2.2.2.2.2.1 bt147.2.2.2.2.2.2.2.2.2.2.2))) else (inst_Is.j0 k t146 false a0_0 a0_1 a0_2 a0_3 a0_4 a0_5 a0_6 a0_7 a0_8 a0_9 bt147.1 bt147.2.1 bt147.2.2.1 bt147.2.2.2.1 bt147.2.2.2.2.1 bt147.2.2.2.2.2.1 bt147.2.2.2.2.2.2.1 bt147.2.2.2.2.2.2.2.1 bt147.2.2.2.2.2.2.2.2.1 bt147.2.2.2.2.2.2.2.2.2.1 bt147.2.2.2.2.2.2.2.2.2.2.1 bt147.2.2.2.2.2.2.2.2.2.2.2)))))
set_option maxHeartbeats 4000000 in
set_option maxRecDepth 100000 in
theorem inst_Is.calls (k : Nat) (a0_0 : Int) (a0_1 : Int) (a0_2 : Int) (a0_3 : Int) (a0_4 : Int) (a0_5 : Int) (a0_6 : Int) (a0_7 : Int) (a0_8 : Int) (a0_9 : Int) (r : Bool) (w : World) (h : inst_Is.f k a0_0 a0_1 a0_2 a0_3 a0_4 a0_5 a0_6 a0_7 a0_8 a0_9 = some r) (hTab : TabW w := by first | exact hTab | exact TabW.drew hTab | exact TabW.drewN hTab _ | exact TabW.below hTab (by repeat (first | (with_reducible first | exact HB.out | apply below_alloc | apply pw_below_drewN | apply below_drew1) | refine Below.setCell ?_ (Aside0.out (by assumption)) _ | exact HB.out | exact Below.refl _ _))) :
    Calls Tryz.prog 97 #[.agg #[.int .i64 a0_0, .int .i64 a0_1, .int .i64 a0_2, .int .i64 a0_3, .int .i64 a0_4, .int .i64 a0_5, .int .u64 a0_6, .int .i64 a0_7, .int .i64 a0_8, .int .i64 a0_9]] w fun e w' => e = .returned (.bool r) ∧ Below w.heap.size w w' := by
  have tr : ∀ (h : Bool) (v : Int), ∃ b, inst_register.f h v = some b := fun h v => by unfold inst_register.f; repeat' split
                                                                                       all_goals exact ⟨_, rfl⟩
  have ts : ∀ a b c d : Int, ∃ r, inst_step.f a b c d = some r := fun a b c d => by unfold inst_step.f; repeat' split
                                                                                    all_goals exact ⟨_, rfl⟩
  unfold inst_Is.f at h
  obtain ⟨s, hs, h⟩ := Option.bind_eq_some_iff.mp h
  have HS := aq hs
  have HT := aq hTab
  clear hTab hs
  by_cases h0 : s = 0
  · subst h0
    rw [if_pos rfl] at h
    obtain rfl := Option.some.inj h
    clear h tr ts
    go_enter Tryz.func97, Tryz.ntmps97
    go_wp2_with (go_at_call 100; refine (inst_Shape.calls _ _ _ HS.out).mono ?_; rintro e w1 ⟨rfl, hb⟩; have HB := aq (below_step (below_alloc (Below.refl w.heap.size w) _) hb); clear hb)
    go_ret
    exact ⟨rfl, HB.out⟩
  · rw [if_neg h0] at h
    have ds : (s == 0) = false := by simpa using h0
    clear h0
    obtain ⟨t, ht, h⟩ := Option.bind_eq_some_iff.mp h
    obtain ⟨t0, t1, t2, t3, t4, t5, t6, t7, t8, t9, t10, t11⟩ := t
    obtain ⟨b1, e1⟩ := tr t0 a0_1
    obtain ⟨b2, e2⟩ := tr t1 a0_2
    obtain ⟨b3, e3⟩ := tr t2 a0_3
    obtain ⟨b4, e4⟩ := tr t3 a0_4
    obtain ⟨b5, e5⟩ := ts a0_5 t4 t5 t6
    obtain ⟨b6, e6⟩ := ts a0_8 0 t7 t8
    have hj : inst_Is.j0 k s (b1 && b2 && b3 && b4) a0_0 a0_1 a0_2 a0_3 a0_4 a0_5 a0_6 a0_7 a0_8 a0_9 t0 t1 t2 t3 t4 t5 t6 t7 t8 t9 t10 t11 = some r := by
      simp only [e1, e2, e3, e4, Option.bind_some] at h
      cases b1
      · exact h
      · cases b2
        · exact h
        · cases b3
          · exact h
          · exact h
    clear h tr ts
    obtain ⟨c1, h1⟩ : ∃ c, decide (a0_7 ≥ 0) = c := ⟨_, rfl⟩
    obtain ⟨c2, h2⟩ : ∃ c, decide (a0_7 ≤ t9) = c := ⟨_, rfl⟩
    obtain ⟨c3, h3⟩ : ∃ c, decide (a0_9 ≥ 0) = c := ⟨_, rfl⟩
    obtain ⟨c4, h4⟩ : ∃ c, decide (a0_9 ≤ t10) = c := ⟨_, rfl⟩
    cases k with
    | zero => simp [inst_Is.j0] at hj
    | succ k =>
    have hk : inst_Is.j1 k s (b1 && b2 && b3 && b4) (b5 && b6 && c1 && c2 && c3 && c4) a0_0 a0_1 a0_2 a0_3 a0_4 a0_5 a0_6 a0_7 a0_8 a0_9 = some r := by
      simp only [inst_Is.j0, e5, e6, Option.bind_some] at hj
      have q1 : (a0_7 ≥ 0) = (c1 = true) := by rw [← h1]; simp
      have q2 : (a0_7 ≤ t9) = (c2 = true) := by rw [← h2]; simp
      have q3 : (a0_9 ≥ 0) = (c3 = true) := by rw [← h3]; simp
      simp only [q1, q2, q3, h4] at hj
      cases b5 <;> cases b6 <;> cases c1 <;> cases c2 <;> cases c3 <;> exact hj
    clear hj
    cases k with
    | zero => simp [inst_Is.j1] at hk
    | succ k =>
    obtain ⟨R, hR⟩ : ∃ R, (b1 && b2 && b3 && b4) = R := ⟨_, rfl⟩
    obtain ⟨M, hM⟩ : ∃ M, (b5 && b6 && c1 && c2 && c3 && c4) = M := ⟨_, rfl⟩
    rw [hR, hM] at hk
    have E1 := aq e1
    have E2 := aq e2
    have E3 := aq e3
    have E4 := aq e4
    have E5 := aq e5
    have E6 := aq e6
    have HSH := aq ht
    have HR := aq hR
    have HM := aq hM
    have HK := aq hk
    have D1 := aq h1
    have D2 := aq h2
    have D3 := aq h3
    have D4 := aq h4
    clear e1 e2 e3 e4 e5 e6 ht hR hM hk h1 h2 h3 h4
    have HI := aq (blk_new w (.cells #[.int .i64 a0_0, .int .i64 a0_1, .int .i64 a0_2, .int .i64 a0_3, .int .i64 a0_4, .int .i64 a0_5, .int .u64 a0_6, .int .i64 a0_7, .int .i64 a0_8, .int .i64 a0_9] 148))
    go_enter Tryz.func97, Tryz.ntmps97
    go_upto_region 5 with (first | (go_at_call 100; refine (inst_Shape.calls _ _ _ HS.out).mono ?_; rintro e w1 ⟨rfl, hb⟩; have HB := aq (below_step (below_alloc (Below.refl w.heap.size w) _) hb); have HI1 := aq (blk_below HI.out hb); clear hb) | (go_at_call 139; refine (inst_shapeOf.calls _ _ _ _ _ _ _ _ _ _ _ _ _ _ HSH.out).mono ?_; rintro e w2 ⟨rfl, hb⟩; have HB2 := aq (below_step HB.out hb); have HI2 := aq (blk_below HI1.out hb); clear hb))
    have HS3 := aq (blk_new w2 (.cells #[.bool t0, .bool t1, .bool t2, .bool t3, .int .i64 t4, .int .i64 t5, .int .i64 t6, .int .i64 t7, .int .i64 t8, .int .i64 t9, .int .i64 t10, .bool t11] 223))
    have HI3 := aq (blk_alloc HI2.out (.cells #[.bool t0, .bool t1, .bool t2, .bool t3, .int .i64 t4, .int .i64 t5, .int .i64 t6, .int .i64 t7, .int .i64 t8, .int .i64 t9, .int .i64 t10, .bool t11] 223))
    have HB3 := aq (below_alloc HB2.out (.cells #[.bool t0, .bool t1, .bool t2, .bool t3, .int .i64 t4, .int .i64 t5, .int .i64 t6, .int .i64 t7, .int .i64 t8, .int .i64 t9, .int .i64 t10, .bool t11] 223))
    change Code.wp _ _ _ _ (w2.alloc (.cells #[.bool t0, .bool t1, .bool t2, .bool t3, .int .i64 t4, .int .i64 t5, .int .i64 t6, .int .i64 t7, .int .i64 t8, .int .i64 t9, .int .i64 t10, .bool t11] 223))
    generalize w2.alloc (.cells #[.bool t0, .bool t1, .bool t2, .bool t3, .int .i64 t4, .int .i64 t5, .int .i64 t6, .int .i64 t7, .int .i64 t8, .int .i64 t9, .int .i64 t10, .bool t11] 223) = w3 at *
    generalize w2.heap.size = N at *
    clear HB HI HI1 HB2 HI2 HS HSH
    go_cut [5] (fun s5 wx => s5 = .bool R ∧ Below w3.heap.size w3 wx)
    case first =>
      have i1 : w3.cell? ⟨w.heap.size, 1, none⟩ = some (.int .i64 a0_1) := (blk_cell HI3.out 1).trans rfl
      have i2 : w3.cell? ⟨w.heap.size, 2, none⟩ = some (.int .i64 a0_2) := (blk_cell HI3.out 2).trans rfl
      have i3 : w3.cell? ⟨w.heap.size, 3, none⟩ = some (.int .i64 a0_3) := (blk_cell HI3.out 3).trans rfl
      have i4 : w3.cell? ⟨w.heap.size, 4, none⟩ = some (.int .i64 a0_4) := (blk_cell HI3.out 4).trans rfl
      have t_0 : w3.cell? ⟨N, 0, none⟩ = some (.bool t0) := (blk_cell HS3.out 0).trans rfl
      have t_1 : w3.cell? ⟨N, 1, none⟩ = some (.bool t1) := (blk_cell HS3.out 1).trans rfl
      have t_2 : w3.cell? ⟨N, 2, none⟩ = some (.bool t2) := (blk_cell HS3.out 2).trans rfl
      have t_3 : w3.cell? ⟨N, 3, none⟩ = some (.bool t3) := (blk_cell HS3.out 3).trans rfl
      have hR := HR.out
      cases b1 <;> (try cases b2) <;> (try cases b3) <;> simp only [Bool.true_and, Bool.false_and] at hR <;> subst hR
      all_goals
        go_wp2_with (first | (go_at_call_of 140 a0_1; refine (inst_register.calls _ _ _ _ E1.out).mono ?_; rintro e q0 ⟨rfl, ⟨n0, rfl⟩⟩) | (go_at_call_of 140 a0_2; refine (inst_register.calls _ _ _ _ E2.out).mono ?_; rintro e q1 ⟨rfl, ⟨n1, rfl⟩⟩) | (go_at_call_of 140 a0_3; refine (inst_register.calls _ _ _ _ E3.out).mono ?_; rintro e q2 ⟨rfl, ⟨n2, rfl⟩⟩) | (go_at_call_of 140 a0_4; refine (inst_register.calls _ _ _ _ E4.out).mono ?_; rintro e q3 ⟨rfl, ⟨n3, rfl⟩⟩))
        go_meet
        exact ⟨rfl, by repeat (first | exact Below.refl _ _ | apply pw_below_drewN)⟩
    case rest =>
      obtain ⟨rfl, hb⟩ := hcut
      have HI4 := aq (blk_below HI3.out hb)
      have HS4 := aq (blk_below HS3.out hb)
      have HB4 := aq (below_step HB3.out hb)
      clear hb HI3 HS3 HB3 HR E1 E2 E3 E4
      go_upto_region 6 with fail
      go_cut [6] (fun s6 wx => s6 = .bool M ∧ Below wc.heap.size wc wx)
      case first =>
        have i5 : wc.cell? ⟨w.heap.size, 5, none⟩ = some (.int .i64 a0_5) := (blk_cell HI4.out 5).trans rfl
        have i7 : wc.cell? ⟨w.heap.size, 7, none⟩ = some (.int .i64 a0_7) := (blk_cell HI4.out 7).trans rfl
        have i8 : wc.cell? ⟨w.heap.size, 8, none⟩ = some (.int .i64 a0_8) := (blk_cell HI4.out 8).trans rfl
        have i9 : wc.cell? ⟨w.heap.size, 9, none⟩ = some (.int .i64 a0_9) := (blk_cell HI4.out 9).trans rfl
        have t_4 : wc.cell? ⟨N, 4, none⟩ = some (.int .i64 t4) := (blk_cell HS4.out 4).trans rfl
        have t_5 : wc.cell? ⟨N, 5, none⟩ = some (.int .i64 t5) := (blk_cell HS4.out 5).trans rfl
        have t_6 : wc.cell? ⟨N, 6, none⟩ = some (.int .i64 t6) := (blk_cell HS4.out 6).trans rfl
        have t_7 : wc.cell? ⟨N, 7, none⟩ = some (.int .i64 t7) := (blk_cell HS4.out 7).trans rfl
        have t_8 : wc.cell? ⟨N, 8, none⟩ = some (.int .i64 t8) := (blk_cell HS4.out 8).trans rfl
        have t_9 : wc.cell? ⟨N, 9, none⟩ = some (.int .i64 t9) := (blk_cell HS4.out 9).trans rfl
        have t_10 : wc.cell? ⟨N, 10, none⟩ = some (.int .i64 t10) := (blk_cell HS4.out 10).trans rfl
        have hM := HM.out
        have d1 := D1.out
        have d2 := D2.out
        have d3 := D3.out
        have d4 := D4.out
        cases b5 <;> (try cases b6) <;> (try cases c1) <;> (try cases c2) <;> (try cases c3) <;> simp only [Bool.true_and, Bool.false_and] at hM <;> subst hM
        all_goals
          go_wp2_with (first | (go_at_call_of 141 a0_5; refine (inst_step.calls _ _ _ _ _ _ E5.out).mono ?_; rintro e q0 ⟨rfl, ⟨n0, rfl⟩⟩) | (go_at_call_of 141 a0_8; refine (inst_step.calls _ _ _ _ _ _ E6.out).mono ?_; rintro e q1 ⟨rfl, ⟨n1, rfl⟩⟩))
          go_meet
          exact ⟨rfl, by repeat (first | exact Below.refl _ _ | apply pw_below_drewN)⟩
      case rest =>
        obtain ⟨rfl, hb⟩ := hcut
        have HI5 := aq (blk_below HI4.out hb)
        have HB5 := aq (below_step HB4.out hb)
        have HT5 := aq (TabW.below HT.out HB5.out)
        have i6 : wc.cell? ⟨w.heap.size, 6, none⟩ = some (.int .u64 a0_6) := (blk_cell HI5.out 6).trans rfl
        have hk := HK.out
        clear hb HI4 HS4 HB4 HM E5 E6 D1 D2 D3 D4 HK
        simp only [inst_Is.j1] at hk
        by_cases h3 : s = 3
        · subst h3
          rw [if_pos rfl] at hk
          cases R
          · obtain rfl : false = r := Option.some.inj hk
            clear hk
            go_wp2
            go_ret
            exact ⟨rfl, HB5.out⟩
          · rw [if_pos rfl] at hk
            cases M
            · obtain rfl : false = r := Option.some.inj hk
              clear hk
              go_wp2
              go_ret
              exact ⟨rfl, HB5.out⟩
            · rw [if_pos rfl] at hk
              obtain ⟨m, hm, h⟩ := Option.bind_eq_some_iff.mp hk
              obtain rfl := Option.some.inj h
              have HMK := aq hm
              clear hk hm h
              go_wp2_with (go_at_call 142; refine (mask_Is.calls _ _ _ _ HMK.out HT5.out).mono ?_; rintro e w6 ⟨rfl, hb⟩; have HB6 := aq (below_step HB5.out hb); clear hb)
              go_ret
              exact ⟨rfl, HB6.out⟩
        · have d3 : (s == 3) = false := by simpa using h3
          rw [if_neg h3] at hk
          clear h3
          cases R
          · obtain rfl : false = r := Option.some.inj hk
            clear hk
            go_wp2
            go_ret
            exact ⟨rfl, HB5.out⟩
          · rw [if_pos rfl] at hk
            cases M
            · obtain rfl : false = r := Option.some.inj hk
              clear hk
              go_wp2
              go_ret
              exact ⟨rfl, HB5.out⟩
            · rw [if_pos rfl] at hk
              obtain rfl := Option.some.inj hk
              clear hk
              go_wp2
              go_ret
              exact ⟨rfl, HB5.out⟩
theorem eqA57 (d : Nat) (w : World) (x0 y0 : Int) (x1 y1 : Int) (x2 y2 : ByteArray) :
    (Op.equalIn (d + 2) 57 (.agg #[.int .u64 x0, .int .i64 x1, .string x2]) (.agg #[.int .u64 y0, .int .i64 y1, .string y2])).run Tryz.prog w = .ok (x0 == y0 && (x1 == y1 && (x2.toList == y2.toList))) w := by
  refine eqA_of Tryz.underlying57 (by kernel_rfl) ?_
  refine eqf_cons (by rfl) (by go_simp; rfl) (by go_simp; rfl) (by go_simp) ?_
  refine eqf_cons (by rfl) (by go_simp; rfl) (by go_simp; rfl) (by go_simp) ?_
  exact eqf_last (by rfl) (by go_simp; rfl) (by go_simp; rfl) (by go_simp)
end Go.Proofs.YtflojfcioojgbaaGreatDoor.P
namespace Go.Proofs.YtflojfcioojgbaaGreatDoor.P
open Go.RowKit Go.Proofs.YtflojfcioojgbaaGreatDoorW.PrintWords Go.Proofs.YtflojfcioojgbaaGreatDoorW.PrintLast Go.Proofs.YtflojfcioojgbaaGreatDoorW.PrintMore
attribute [local go_sem] max2_int min2_int max_two min_two max_three min_three max_four min_four
set_option linter.unusedVariables false
set_option linter.unusedSimpArgs false
attribute [local go_sem high] eqA57
def cleatref07_Same.l0 : Nat → List (S57) → List (S57) → Int → Option (Bool)
 | 0, _, _, _ => none
 | k + 1, x0, x1, x5 => if x5 < (x0.length : Int) then (if 0 ≤ x5 then (if x5 < (x1.length : Int) then (if (!(((rd_T57 x0 x5).f0) == ((rd_T57 x1 x5).f0)) || (!(((rd_T57 x0 x5).f1) == ((rd_T57 x1 x5).f1)) || (!((((rd_T57 x0 x5).f2).toList) == (((rd_T57 x1 x5).f2).toList))))) = true then (some false) else (cleatref07_Same.l0 k x0 x1 (wrap64 (x5 + 1)))) else (none)) else (none)) else (some true)
def cleatref07_Same.f (k : Nat) (l0 : List (S57)) (l1 : List (S57)) : Option (Bool) := if (l0.length : Int) = (l1.length : Int) then (cleatref07_Same.l0 k l0 l1 0) else (some false)
set_option maxHeartbeats 8000000 in
set_option maxRecDepth 100000 in
theorem cleatref07_Same.calls (k : Nat) (A0 : Option Addr) (c0 : Nat) (l0 : List (S57)) (A1 : Option Addr) (c1 : Nat) (l1 : List (S57)) (r : Bool) (w : World) (hr0 : Kd.C k57 w A0 l0.length l0) (hc0 : l0.length ≤ c0) (hr1 : Kd.C k57 w A1 l1.length l1) (hc1 : l1.length ≤ c1) (h : cleatref07_Same.f k l0 l1 = some r) :
    Calls Tryz.prog 36 #[.slice A0 l0.length c0, .slice A1 l1.length c1] w fun e w' => e = .returned (.bool r) ∧ Drawn0 w w' := by
 have hu57 := Tryz.underlying57
 have HR0 := aq hr0
 have HC0 := aq hc0
 clear hr0 hc0
 have HR1 := aq hr1
 have HC1 := aq hc1
 clear hr1 hc1
 have H : (if (l0.length : Int) = (l1.length : Int) then (cleatref07_Same.l0 k l0 l1 0) else (some false)) = some r := h
 clear h
 by_cases c3 : (l0.length : Int) = (l1.length : Int)
 ·
  rw [if_pos c3] at H
  have c3b0 : ((l0.length : Int) == (l1.length : Int)) = true := beq_iff_eq.mpr c3
  have c3b1 : ((l0.length : Int) != (l1.length : Int)) = false := bne_eq_false_iff_eq.mpr c3
  have c3b2 : (l0.length == l1.length) = true := by first | simpa using c3 | (simp at c3 ⊢; omega)
  clear c3
  have H' := aq H
  clear H
  go_enter Tryz.func36, Tryz.ntmps36
  go_wp2
  repeat (go_quiet (fail); try go_wp2)
  go_loopg [5] k (fun kq v5 w' => ∃ (x5_1 : Int), v5 = .int .i64 x5_1 ∧ Aside0 (cleatref07_Same.l0 kq l0 l1 x5_1 = some r) ∧ Aside0 (kq ≤ k) ∧ Drawn0 w w')
  case atStart => exact ⟨(0), (by first | rfl | (simp; done) | (simp [*]; done)), H', ⟨Nat.le_refl _⟩, by repeat (first | exact Drawn0.refl _ | apply Drawn0.step)⟩
  case round =>
   clear H'
   try clear c1
   try clear p2
   try clear c3
   try clear c3b0
   try clear c3b1
   try clear c3b2
   obtain ⟨x5_1, rfl, HA, HK1, ⟨m1, rfl⟩⟩ := hrel
   cases gk with
   | zero => exact absurd HA.out (by simp [cleatref07_Same.l0])
   | succ k1 =>
    have H := HA.out
    clear HA
    simp only [cleatref07_Same.l0] at H
    by_cases c4 : x5_1 < (l0.length : Int)
    ·
     rw [if_pos c4] at H
     have c4b0 : decide (x5_1 < (l0.length : Int)) = true := decide_eq_true c4
     clear c4
     by_cases c5 : 0 ≤ x5_1
     ·
      rw [if_pos c5] at H
      have c5b0 : decide (0 ≤ x5_1) = true := decide_eq_true c5
      clear c5
      by_cases c6 : x5_1 < (l1.length : Int)
      ·
       rw [if_pos c6] at H
       have c6b0 : decide (x5_1 < (l1.length : Int)) = true := decide_eq_true c6
       clear c6
       by_cases c7 : (!(((rd_T57 l0 x5_1).f0) == ((rd_T57 l1 x5_1).f0)) || (!(((rd_T57 l0 x5_1).f1) == ((rd_T57 l1 x5_1).f1)) || (!((((rd_T57 l0 x5_1).f2).toList) == (((rd_T57 l1 x5_1).f2).toList))))) = true
       ·
        rw [if_pos c7] at H
        have c7b0 : (!(((rd_T57 l0 x5_1).f0) == ((rd_T57 l1 x5_1).f0)) || (!(((rd_T57 l0 x5_1).f1) == ((rd_T57 l1 x5_1).f1)) || (!((((rd_T57 l0 x5_1).f2).toList) == (((rd_T57 l1 x5_1).f2).toList))))) = true := c7
        clear c7
        obtain rfl := Option.some.inj H
        have p193 : 0 ≤ (x5_1 : Int) := of_decide_eq_true (by first | (with_reducible assumption) | assumption)
        have q193 : x5_1 < (l0.length : Int) := of_decide_eq_true (by first | (with_reducible assumption) | assumption)
        obtain ⟨ad193, e193, hx193_0, hx193_1, hx193_2⟩ := at_T57 HR0.out x5_1 p193 q193
        cases e193
        replace p193 := eq_true p193
        replace q193 := eq_true q193
        have p194 : 0 ≤ (x5_1 : Int) := of_decide_eq_true (by first | (with_reducible assumption) | assumption)
        have q194 : x5_1 < (l1.length : Int) := of_decide_eq_true (by first | (with_reducible assumption) | assumption)
        obtain ⟨ad194, e194, hx194_0, hx194_1, hx194_2⟩ := at_T57 HR1.out x5_1 p194 q194
        cases e194
        replace p194 := eq_true p194
        replace q194 := eq_true q194
        go_wp2
        repeat (go_quiet (fail); try go_wp2)
        go_ret
        exact ⟨by first | rfl | (simp; done) | (simp [*]; done), by repeat (first | exact Drawn0.refl _ | apply Drawn0.step)⟩
       ·
        rw [if_neg c7] at H
        have c7b0 : (!(((rd_T57 l0 x5_1).f0) == ((rd_T57 l1 x5_1).f0)) || (!(((rd_T57 l0 x5_1).f1) == ((rd_T57 l1 x5_1).f1)) || (!((((rd_T57 l0 x5_1).f2).toList) == (((rd_T57 l1 x5_1).f2).toList))))) = false := by simpa using c7
        clear c7
        have H' := aq H
        clear H
        have p193 : 0 ≤ (x5_1 : Int) := of_decide_eq_true (by first | (with_reducible assumption) | assumption)
        have q193 : x5_1 < (l0.length : Int) := of_decide_eq_true (by first | (with_reducible assumption) | assumption)
        obtain ⟨ad193, e193, hx193_0, hx193_1, hx193_2⟩ := at_T57 HR0.out x5_1 p193 q193
        cases e193
        replace p193 := eq_true p193
        replace q193 := eq_true q193
        have p194 : 0 ≤ (x5_1 : Int) := of_decide_eq_true (by first | (with_reducible assumption) | assumption)
        have q194 : x5_1 < (l1.length : Int) := of_decide_eq_true (by first | (with_reducible assumption) | assumption)
        obtain ⟨ad194, e194, hx194_0, hx194_1, hx194_2⟩ := at_T57 HR1.out x5_1 p194 q194
        cases e194
        replace p194 := eq_true p194
        replace q194 := eq_true q194
        go_wp2
        repeat (go_quiet (fail); try go_wp2)
        go_roundg k1
        case measure => have := HK1.out; omega
        case rel => exact ⟨(wrap64 (x5_1 + 1)), (by first | rfl | (simp; done) | (simp [*]; done)), H', ⟨by have := HK1.out; omega⟩, by repeat (first | exact Drawn0.refl _ | apply Drawn0.step)⟩
      ·
       rw [if_neg c6] at H
       exact absurd H (by simp)
     ·
      rw [if_neg c5] at H
      exact absurd H (by simp)
    ·
     rw [if_neg c4] at H
     have c4b0 : decide (x5_1 < (l0.length : Int)) = false := decide_eq_false c4
     clear c4
     obtain rfl := Option.some.inj H
     go_wp2
     repeat (go_quiet (fail); try go_wp2)
     go_ret
     exact ⟨by first | rfl | (simp; done) | (simp [*]; done), by repeat (first | exact Drawn0.refl _ | apply Drawn0.step)⟩
 ·
  rw [if_neg c3] at H
  have c3b0 : ((l0.length : Int) == (l1.length : Int)) = false := beq_eq_false_iff_ne.mpr c3
  have c3b1 : ((l0.length : Int) != (l1.length : Int)) = true := bne_iff_ne.mpr c3
  have c3b2 : (l0.length == l1.length) = false := by first | simpa using c3 | (simp at c3 ⊢; omega)
  obtain rfl := Option.some.inj H
  go_enter Tryz.func36, Tryz.ntmps36
  go_wp2
  repeat (go_quiet (fail); try go_wp2)
  go_ret
  exact ⟨by first | rfl | (simp; done) | (simp [*]; done), by repeat (first | exact Drawn0.refl _ | apply Drawn0.step)⟩
def cleatref27_Same.f (k : Nat) (a0_0 : Int) (a0_1 : Int) (l0_2 : List (S57)) (a1_0 : Int) (a1_1 : Int) (l1_2 : List (S57)) : Option (Bool) := if a0_0 = a1_0 then (if a0_1 = a1_1 then ((cleatref07_Same.f k l0_2 l1_2).bind fun t197 => (some t197)) else (some false)) else (some false)
set_option maxHeartbeats 8000000 in
set_option maxRecDepth 100000 in
theorem cleatref27_Same.calls (k : Nat) (a0_0 : Int) (a0_1 : Int) (A0_2 : Option Addr) (c0_2 : Nat) (l0_2 : List (S57)) (a1_0 : Int) (a1_1 : Int) (A1_2 : Option Addr) (c1_2 : Nat) (l1_2 : List (S57)) (r : Bool) (w : World) (hr0_2 : Kd.C k57 w A0_2 l0_2.length l0_2) (hc0_2 : l0_2.length ≤ c0_2) (hr1_2 : Kd.C k57 w A1_2 l1_2.length l1_2) (hc1_2 : l1_2.length ≤ c1_2) (h : cleatref27_Same.f k a0_0 a0_1 l0_2 a1_0 a1_1 l1_2 = some r) :
    Calls Tryz.prog 14 #[.agg #[.int .u64 a0_0, .int .u64 a0_1, .slice A0_2 l0_2.length c0_2], .agg #[.int .u64 a1_0, .int .u64 a1_1, .slice A1_2 l1_2.length c1_2]] w fun e w' => e = .returned (.bool r) ∧ Below w.heap.size w w' := by
 have hu25 := Tryz.underlying25
 have HR0_2 := aq hr0_2
 have HC0_2 := aq hc0_2
 clear hr0_2 hc0_2
 have HR1_2 := aq hr1_2
 have HC1_2 := aq hc1_2
 clear hr1_2 hc1_2
 have HB := aq (Below.refl w.heap.size w)
 have H : (if a0_0 = a1_0 then (if a0_1 = a1_1 then ((cleatref07_Same.f k l0_2 l1_2).bind fun t197 => (some t197)) else (some false)) else (some false)) = some r := h
 clear h
 by_cases c3 : a0_0 = a1_0
 ·
  rw [if_pos c3] at H
  have c3b0 : (a0_0 == a1_0) = true := beq_iff_eq.mpr c3
  have c3b1 : (a0_0 != a1_0) = false := bne_eq_false_iff_eq.mpr c3
  clear c3
  by_cases c4 : a0_1 = a1_1
  ·
   rw [if_pos c4] at H
   have c4b0 : (a0_1 == a1_1) = true := beq_iff_eq.mpr c4
   have c4b1 : (a0_1 != a1_1) = false := bne_eq_false_iff_eq.mpr c4
   clear c4
   replace H := Option.bind_eq_some_iff.mp H
   obtain ⟨t197, A50, H⟩ := H
   replace H : (some t197) = some r := H
   have A5 := aq A50
   clear A50
   obtain rfl := Option.some.inj H
   go_enter Tryz.func14, Tryz.ntmps14
   go_wp2_with (first | ((with_reducible refine gate_dst (N := 2) rfl ?_); refine box_event ?hg (N := 2) ?hd (cs := #[.int .u64 a0_0, .int .u64 a0_1, .slice A0_2 l0_2.length c0_2]) (t := 25) ?hr ?_; (case hd => rfl); (case hg => rfl); (case hr => first | (go_simp; done) | (go_simp; rfl)); intro gb195 hg w6 hbox hb; have n0_ := aq (below_step (by repeat (first | (with_reducible first | exact HB.out | apply below_alloc | apply pw_below_drewN | apply below_drew1) | exact HB.out)) hb); have n1_ := aq (hbox); have n2_ := aq ((by rw [hg]; exact (below_size (by repeat (first | (with_reducible first | exact HB.out | apply below_alloc | apply pw_below_drewN | apply below_drew1) | exact HB.out))) : w.heap.size ≤ gb195)); have n3_ := aq ((by rw [hg]; exact (below_size (by repeat (first | (with_reducible first | exact HB.out | apply below_alloc | apply pw_below_drewN | apply below_drew1) | exact HB.out))) : w.heap.size ≤ gb195)); clear HB; have HB := n0_; have BK195 := n1_; have GW195 := n2_; have GE195 := n3_; clear n0_ n1_ n2_ n3_; clear hb hbox hg) | ((with_reducible refine gate_dst (N := 3) rfl ?_); refine box_event ?hg (N := 3) ?hd (cs := #[.int .u64 a1_0, .int .u64 a1_1, .slice A1_2 l1_2.length c1_2]) (t := 25) ?hr ?_; (case hd => rfl); (case hg => rfl); (case hr => first | (go_simp; done) | (go_simp; rfl)); intro gb196 hg w7 hbox hb; have n0_ := aq (blk_below (g := gb195) (o := .cells #[.int .u64 a0_0, .int .u64 a0_1, .slice A0_2 l0_2.length c0_2] 25 (0, 0)) (by (with_reducible repeat (first | refine blk_drewN ?_ _ | refine blk_drew ?_ | refine blk_alloc ?_ _)); exact BK195.out) hb); have n1_ := aq (below_step (by repeat (first | (with_reducible first | exact HB.out | apply below_alloc | apply pw_below_drewN | apply below_drew1 | refine below_set ?_ GE195.out) | exact HB.out)) hb); have n2_ := aq (hbox); have n3_ := aq ((by rw [hg]; exact (below_size (by repeat (first | (with_reducible first | exact HB.out | apply below_alloc | apply pw_below_drewN | apply below_drew1 | refine below_set ?_ GE195.out) | exact HB.out))) : w.heap.size ≤ gb196)); have n4_ := aq ((by rw [hg]; exact (below_size (by repeat (first | (with_reducible first | exact HB.out | apply below_alloc | apply pw_below_drewN | apply below_drew1 | refine below_set ?_ GE195.out) | exact HB.out))) : w.heap.size ≤ gb196)); have n5_ := aq ((by rw [hg]; exact Nat.ne_of_lt (blk_lt (g := gb195) (o := .cells #[.int .u64 a0_0, .int .u64 a0_1, .slice A0_2 l0_2.length c0_2] 25 (0, 0)) (by (with_reducible repeat (first | refine blk_drewN ?_ _ | refine blk_drew ?_ | refine blk_alloc ?_ _)); exact BK195.out)) : gb195 ≠ gb196)); have n6_ := aq ((by rw [hg]; exact Nat.ne_of_gt (blk_lt (g := gb195) (o := .cells #[.int .u64 a0_0, .int .u64 a0_1, .slice A0_2 l0_2.length c0_2] 25 (0, 0)) (by (with_reducible repeat (first | refine blk_drewN ?_ _ | refine blk_drew ?_ | refine blk_alloc ?_ _)); exact BK195.out)) : gb196 ≠ gb195)); clear BK195; clear HB; have BK195 := n0_; have HB := n1_; have BK196 := n2_; have GW196 := n3_; have GE196 := n4_; have NB195_196 := n5_; have NB196_195 := n6_; clear n0_ n1_ n2_ n3_ n4_ n5_ n6_; clear hb hbox hg; have hnb8 := NB195_196.out; have hnc8 := NB196_195.out; obtain ⟨hcz9_0, hcz9_1, hcz9_2⟩ := cells3_ BK195.out; have hfz9_0 := fun j => blk_frozen BK195.out j; obtain ⟨hcz10_0, hcz10_1, hcz10_2⟩ := cells3_ BK196.out; have hfz10_0 := fun j => blk_frozen BK196.out j) | (go_at_call 36; (with_reducible refine (cleatref07_Same.calls k _ _ l0_2 _ _ l1_2 t197 _ ?side1 ?side2 ?side3 ?side4 A5.out).mono ?_); (case side1 => repeat (first | exact (Kd.C_below HR0_2.out HB.out) | (with_reducible refine Kd.C_alloc ?_ _) | (with_reducible refine Kd.C_drewN ?_ _) | (with_reducible refine Kd.C_drew ?_))); (case side2 => exact HC0_2.out); (case side3 => repeat (first | exact (Kd.C_below HR1_2.out HB.out) | (with_reducible refine Kd.C_alloc ?_ _) | (with_reducible refine Kd.C_drewN ?_ _) | (with_reducible refine Kd.C_drew ?_))); (case side4 => exact HC1_2.out); rintro e w' ⟨rfl, ⟨nd, rfl⟩⟩))
   go_ret
   exact ⟨by first | rfl | (simp [errW_none, errW_some] <;> rfl) | (simp [*, errW_none, errW_some] <;> rfl), by repeat (first | (with_reducible first | exact HB.out | apply below_alloc | apply pw_below_drewN | apply below_drew1 | refine below_set ?_ GE195.out | refine below_set ?_ GE196.out) | exact HB.out)⟩
  ·
   rw [if_neg c4] at H
   have c4b0 : (a0_1 == a1_1) = false := beq_eq_false_iff_ne.mpr c4
   have c4b1 : (a0_1 != a1_1) = true := bne_iff_ne.mpr c4
   obtain rfl := Option.some.inj H
   go_enter Tryz.func14, Tryz.ntmps14
   go_wp2_with (first | ((with_reducible refine gate_dst (N := 2) rfl ?_); refine box_event ?hg (N := 2) ?hd (cs := #[.int .u64 a0_0, .int .u64 a0_1, .slice A0_2 l0_2.length c0_2]) (t := 25) ?hr ?_; (case hd => rfl); (case hg => rfl); (case hr => first | (go_simp; done) | (go_simp; rfl)); intro gb195 hg w11 hbox hb; have n0_ := aq (below_step (by repeat (first | (with_reducible first | exact HB.out | apply below_alloc | apply pw_below_drewN | apply below_drew1) | exact HB.out)) hb); have n1_ := aq (hbox); have n2_ := aq ((by rw [hg]; exact (below_size (by repeat (first | (with_reducible first | exact HB.out | apply below_alloc | apply pw_below_drewN | apply below_drew1) | exact HB.out))) : w.heap.size ≤ gb195)); have n3_ := aq ((by rw [hg]; exact (below_size (by repeat (first | (with_reducible first | exact HB.out | apply below_alloc | apply pw_below_drewN | apply below_drew1) | exact HB.out))) : w.heap.size ≤ gb195)); clear HB; have HB := n0_; have BK195 := n1_; have GW195 := n2_; have GE195 := n3_; clear n0_ n1_ n2_ n3_; clear hb hbox hg) | ((with_reducible refine gate_dst (N := 3) rfl ?_); refine box_event ?hg (N := 3) ?hd (cs := #[.int .u64 a1_0, .int .u64 a1_1, .slice A1_2 l1_2.length c1_2]) (t := 25) ?hr ?_; (case hd => rfl); (case hg => rfl); (case hr => first | (go_simp; done) | (go_simp; rfl)); intro gb196 hg w12 hbox hb; have n0_ := aq (blk_below (g := gb195) (o := .cells #[.int .u64 a0_0, .int .u64 a0_1, .slice A0_2 l0_2.length c0_2] 25 (0, 0)) (by (with_reducible repeat (first | refine blk_drewN ?_ _ | refine blk_drew ?_ | refine blk_alloc ?_ _)); exact BK195.out) hb); have n1_ := aq (below_step (by repeat (first | (with_reducible first | exact HB.out | apply below_alloc | apply pw_below_drewN | apply below_drew1 | refine below_set ?_ GE195.out) | exact HB.out)) hb); have n2_ := aq (hbox); have n3_ := aq ((by rw [hg]; exact (below_size (by repeat (first | (with_reducible first | exact HB.out | apply below_alloc | apply pw_below_drewN | apply below_drew1 | refine below_set ?_ GE195.out) | exact HB.out))) : w.heap.size ≤ gb196)); have n4_ := aq ((by rw [hg]; exact (below_size (by repeat (first | (with_reducible first | exact HB.out | apply below_alloc | apply pw_below_drewN | apply below_drew1 | refine below_set ?_ GE195.out) | exact HB.out))) : w.heap.size ≤ gb196)); have n5_ := aq ((by rw [hg]; exact Nat.ne_of_lt (blk_lt (g := gb195) (o := .cells #[.int .u64 a0_0, .int .u64 a0_1, .slice A0_2 l0_2.length c0_2] 25 (0, 0)) (by (with_reducible repeat (first | refine blk_drewN ?_ _ | refine blk_drew ?_ | refine blk_alloc ?_ _)); exact BK195.out)) : gb195 ≠ gb196)); have n6_ := aq ((by rw [hg]; exact Nat.ne_of_gt (blk_lt (g := gb195) (o := .cells #[.int .u64 a0_0, .int .u64 a0_1, .slice A0_2 l0_2.length c0_2] 25 (0, 0)) (by (with_reducible repeat (first | refine blk_drewN ?_ _ | refine blk_drew ?_ | refine blk_alloc ?_ _)); exact BK195.out)) : gb196 ≠ gb195)); clear BK195; clear HB; have BK195 := n0_; have HB := n1_; have BK196 := n2_; have GW196 := n3_; have GE196 := n4_; have NB195_196 := n5_; have NB196_195 := n6_; clear n0_ n1_ n2_ n3_ n4_ n5_ n6_; clear hb hbox hg; have hnb13 := NB195_196.out; have hnc13 := NB196_195.out; obtain ⟨hcz14_0, hcz14_1, hcz14_2⟩ := cells3_ BK195.out; have hfz14_0 := fun j => blk_frozen BK195.out j; obtain ⟨hcz15_0, hcz15_1, hcz15_2⟩ := cells3_ BK196.out; have hfz15_0 := fun j => blk_frozen BK196.out j))
   go_ret
   exact ⟨by first | rfl | (simp [errW_none, errW_some] <;> rfl) | (simp [*, errW_none, errW_some] <;> rfl), by repeat (first | (with_reducible first | exact HB.out | apply below_alloc | apply pw_below_drewN | apply below_drew1 | refine below_set ?_ GE195.out | refine below_set ?_ GE196.out) | exact HB.out)⟩
 ·
  rw [if_neg c3] at H
  have c3b0 : (a0_0 == a1_0) = false := beq_eq_false_iff_ne.mpr c3
  have c3b1 : (a0_0 != a1_0) = true := bne_iff_ne.mpr c3
  obtain rfl := Option.some.inj H
  go_enter Tryz.func14, Tryz.ntmps14
  go_wp2_with (first | ((with_reducible refine gate_dst (N := 2) rfl ?_); refine box_event ?hg (N := 2) ?hd (cs := #[.int .u64 a0_0, .int .u64 a0_1, .slice A0_2 l0_2.length c0_2]) (t := 25) ?hr ?_; (case hd => rfl); (case hg => rfl); (case hr => first | (go_simp; done) | (go_simp; rfl)); intro gb195 hg w16 hbox hb; have n0_ := aq (below_step (by repeat (first | (with_reducible first | exact HB.out | apply below_alloc | apply pw_below_drewN | apply below_drew1) | exact HB.out)) hb); have n1_ := aq (hbox); have n2_ := aq ((by rw [hg]; exact (below_size (by repeat (first | (with_reducible first | exact HB.out | apply below_alloc | apply pw_below_drewN | apply below_drew1) | exact HB.out))) : w.heap.size ≤ gb195)); have n3_ := aq ((by rw [hg]; exact (below_size (by repeat (first | (with_reducible first | exact HB.out | apply below_alloc | apply pw_below_drewN | apply below_drew1) | exact HB.out))) : w.heap.size ≤ gb195)); clear HB; have HB := n0_; have BK195 := n1_; have GW195 := n2_; have GE195 := n3_; clear n0_ n1_ n2_ n3_; clear hb hbox hg) | ((with_reducible refine gate_dst (N := 3) rfl ?_); refine box_event ?hg (N := 3) ?hd (cs := #[.int .u64 a1_0, .int .u64 a1_1, .slice A1_2 l1_2.length c1_2]) (t := 25) ?hr ?_; (case hd => rfl); (case hg => rfl); (case hr => first | (go_simp; done) | (go_simp; rfl)); intro gb196 hg w17 hbox hb; have n0_ := aq (blk_below (g := gb195) (o := .cells #[.int .u64 a0_0, .int .u64 a0_1, .slice A0_2 l0_2.length c0_2] 25 (0, 0)) (by (with_reducible repeat (first | refine blk_drewN ?_ _ | refine blk_drew ?_ | refine blk_alloc ?_ _)); exact BK195.out) hb); have n1_ := aq (below_step (by repeat (first | (with_reducible first | exact HB.out | apply below_alloc | apply pw_below_drewN | apply below_drew1 | refine below_set ?_ GE195.out) | exact HB.out)) hb); have n2_ := aq (hbox); have n3_ := aq ((by rw [hg]; exact (below_size (by repeat (first | (with_reducible first | exact HB.out | apply below_alloc | apply pw_below_drewN | apply below_drew1 | refine below_set ?_ GE195.out) | exact HB.out))) : w.heap.size ≤ gb196)); have n4_ := aq ((by rw [hg]; exact (below_size (by repeat (first | (with_reducible first | exact HB.out | apply below_alloc | apply pw_below_drewN | apply below_drew1 | refine below_set ?_ GE195.out) | exact HB.out))) : w.heap.size ≤ gb196)); have n5_ := aq ((by rw [hg]; exact Nat.ne_of_lt (blk_lt (g := gb195) (o := .cells #[.int .u64 a0_0, .int .u64 a0_1, .slice A0_2 l0_2.length c0_2] 25 (0, 0)) (by (with_reducible repeat (first | refine blk_drewN ?_ _ | refine blk_drew ?_ | refine blk_alloc ?_ _)); exact BK195.out)) : gb195 ≠ gb196)); have n6_ := aq ((by rw [hg]; exact Nat.ne_of_gt (blk_lt (g := gb195) (o := .cells #[.int .u64 a0_0, .int .u64 a0_1, .slice A0_2 l0_2.length c0_2] 25 (0, 0)) (by (with_reducible repeat (first | refine blk_drewN ?_ _ | refine blk_drew ?_ | refine blk_alloc ?_ _)); exact BK195.out)) : gb196 ≠ gb195)); clear BK195; clear HB; have BK195 := n0_; have HB := n1_; have BK196 := n2_; have GW196 := n3_; have GE196 := n4_; have NB195_196 := n5_; have NB196_195 := n6_; clear n0_ n1_ n2_ n3_ n4_ n5_ n6_; clear hb hbox hg; have hnb18 := NB195_196.out; have hnc18 := NB196_195.out; obtain ⟨hcz19_0, hcz19_1, hcz19_2⟩ := cells3_ BK195.out; have hfz19_0 := fun j => blk_frozen BK195.out j; obtain ⟨hcz20_0, hcz20_1, hcz20_2⟩ := cells3_ BK196.out; have hfz20_0 := fun j => blk_frozen BK196.out j))
  go_ret
  exact ⟨by first | rfl | (simp [errW_none, errW_some] <;> rfl) | (simp [*, errW_none, errW_some] <;> rfl), by repeat (first | (with_reducible first | exact HB.out | apply below_alloc | apply pw_below_drewN | apply below_drew1 | refine below_set ?_ GE195.out | refine below_set ?_ GE196.out) | exact HB.out)⟩
end Go.Proofs.YtflojfcioojgbaaGreatDoor.P
namespace Go.Proofs.YtflojfcioojgbaaGreatDoor.M
open Go.RowKit Go.Proofs.YtflojfcioojgbaaGreatDoor.P Go.Proofs.YtflojfcioojgbaaGreatDoorW.PrintWords Go.Proofs.YtflojfcioojgbaaGreatDoorW.PrintLast Go.Proofs.YtflojfcioojgbaaGreatDoorW.PrintMore
def getL : List UInt8 → Nat → Nat → Nat × Nat × Nat
  | [], _, _ => (0, 0, 9)
  | c :: l, i, v => if (i = 9 ∧ 1 < c.toNat) ∨ (0 < i ∧ c.toNat = 0) then (0, 0, 3) else if c.toNat < 128 then (v + c.toNat * 2 ^ (7 * i), i + 1, 0) else getL l (i + 1) (v + c.toNat % 128 * 2 ^ (7 * i))
theorem ofNat_toNat (n : Nat) (h : n < 256) : (UInt8.ofNat n).toNat = n := by simp; omega
theorem pow7 (i : Nat) : (2 : Nat) ^ (7 * (i + 1)) = 128 * 2 ^ (7 * i) := by rw [Nat.mul_add, Nat.pow_add, Nat.mul_comm]
theorem room_step (i : Nat) (h : i < 9) : (2 : Nat) ^ (64 - 7 * i) = 128 * 2 ^ (64 - 7 * (i + 1)) := by
  rw [show 64 - 7 * i = 64 - 7 * (i + 1) + 7 by omega, Nat.pow_add, Nat.mul_comm]
theorem get_put (more : List UInt8) : ∀ (d y i v : Nat), i + d = 10 → i ≤ 9 → y < 2 ^ (64 - 7 * i) → (0 < i → y ≠ 0) → getL (wire_putL y ++ more) i v = (v + y * 2 ^ (7 * i), i + (wire_putL y).length, 0)
  | 0, _, i, _, h, hi, _, _ => by omega
  | d + 1, y, i, v, h, hi, hy, h0 => by
    by_cases hlt : y < 128
    · rw [wire_putL_less y hlt]
      simp only [List.cons_append, List.nil_append, getL, ofNat_toNat y (by omega)]
      have h9 : ¬ ((i = 9 ∧ 1 < y) ∨ (0 < i ∧ y = 0)) := by
        rintro (⟨rfl, h1⟩ | ⟨h1, h2⟩)
        · simp at hy; omega
        · exact h0 h1 h2
      rw [if_neg h9, if_pos hlt]
      rfl
    · rw [wire_putL_more y hlt]
      have hi9 : i < 9 := by
        rcases Nat.lt_or_ge i 9 with h1 | h1
        · exact h1
        · have : i = 9 := by omega
          subst this
          simp at hy
          omega
      have e := room_step i hi9
      have ih := get_put more d (y / 128) (i + 1) (v + y % 128 * 2 ^ (7 * i)) (by omega) (by omega) (by omega) (by omega)
      simp only [List.cons_append, getL, ofNat_toNat (y % 128 + 128) (by omega)]
      rw [if_neg (by omega), if_neg (by omega), show (y % 128 + 128) % 128 = y % 128 by omega, ih, pow7]
      have e2 : v + y % 128 * 2 ^ (7 * i) + y / 128 * (128 * 2 ^ (7 * i)) = v + y * 2 ^ (7 * i) := by
        have : y * 2 ^ (7 * i) = (128 * (y / 128) + y % 128) * 2 ^ (7 * i) := by rw [Nat.div_add_mod]
        rw [this, Nat.add_mul, Nat.mul_comm 128 (y / 128), Nat.mul_assoc]
        omega
      rw [e2]
      simp
      omega
theorem get_cases : ∀ (l : List UInt8) (i v : Nat), i ≤ 9 → v < 2 ^ (7 * i) →
    (∃ y rest, l = wire_putL y ++ rest ∧ y < 2 ^ (64 - 7 * i) ∧ (0 < i → y ≠ 0) ∧ getL l i v = (v + y * 2 ^ (7 * i), i + (wire_putL y).length, 0)) ∨
    (∃ e, (e = 3 ∨ e = 9) ∧ getL l i v = (0, 0, e))
  | [], i, v, _, _ => .inr ⟨9, .inr rfl, rfl⟩
  | c :: l, i, v, hi, hv => by
    have hc : c.toNat < 256 := c.toNat_lt
    simp only [getL]
    by_cases h9 : (i = 9 ∧ 1 < c.toNat) ∨ (0 < i ∧ c.toNat = 0)
    · rw [if_pos h9]; exact .inr ⟨3, .inl rfl, rfl⟩
    · rw [if_neg h9]
      by_cases hlt : c.toNat < 128
      · rw [if_pos hlt]
        refine .inl ⟨c.toNat, l, ?_, ?_, ?_, ?_⟩
        · rw [wire_putL_less _ hlt]; simp
        · by_cases h : i = 9
          · subst h; simp; omega
          · have : (2 : Nat) ^ 7 ≤ 2 ^ (64 - 7 * i) := Nat.pow_le_pow_right (by decide) (by omega)
            omega
        · intro h h2; exact h9 (.inr ⟨h, h2⟩)
        · rw [wire_putL_less _ hlt]; rfl
      · rw [if_neg hlt]
        have hi9 : i < 9 := by
          rcases Nat.lt_or_ge i 9 with h1 | h1
          · exact h1
          · exact absurd (.inl ⟨by omega, by omega⟩) h9
        have hp := Nat.two_pow_pos (7 * i)
        have hv2 : v + c.toNat % 128 * 2 ^ (7 * i) < 2 ^ (7 * (i + 1)) := by
          rw [pow7]
          have : c.toNat % 128 * 2 ^ (7 * i) ≤ 127 * 2 ^ (7 * i) := Nat.mul_le_mul_right _ (by omega)
          omega
        rcases get_cases l (i + 1) _ (by omega) hv2 with ⟨y, rest, h1, h2, h3, h4⟩ | ⟨e, he, h4⟩
        · have y0 := h3 (by omega)
          have hx : ¬ c.toNat % 128 + 128 * y < 128 := by omega
          have e := room_step i hi9
          refine .inl ⟨c.toNat % 128 + 128 * y, rest, ?_, by omega, by omega, ?_⟩
          · rw [wire_putL_more _ hx, show (c.toNat % 128 + 128 * y) % 128 + 128 = c.toNat by omega, show (c.toNat % 128 + 128 * y) / 128 = y by omega, List.cons_append, ← h1]
            simp
          · rw [wire_putL_more _ hx, show (c.toNat % 128 + 128 * y) / 128 = y by omega, h4, pow7]
            have e2 : v + c.toNat % 128 * 2 ^ (7 * i) + y * (128 * 2 ^ (7 * i)) = v + (c.toNat % 128 + 128 * y) * 2 ^ (7 * i) := by
              rw [Nat.add_mul, Nat.mul_comm 128 y, Nat.mul_assoc]; omega
            rw [e2]
            simp
            omega
        · exact .inr ⟨e, he, h4⟩
theorem get_cases0 (l : List UInt8) : (∃ y rest, l = wire_putL y ++ rest ∧ y < 18446744073709551616 ∧ getL l 0 0 = (y, (wire_putL y).length, 0)) ∨ (∃ e, (e = 3 ∨ e = 9) ∧ getL l 0 0 = (0, 0, e)) := by
  rcases get_cases l 0 0 (by decide) (by decide) with ⟨y, rest, h1, h2, _, h4⟩ | h
  · refine .inl ⟨y, rest, h1, h2, ?_⟩
    rw [h4]; simp
  · exact .inr h
theorem get_put0 (y : Nat) (more : List UInt8) (h : y < 18446744073709551616) : getL (wire_putL y ++ more) 0 0 = (y, (wire_putL y).length, 0) := by
  rw [get_put more 10 y 0 0 (by decide) (by decide) h (by omega)]; simp
def gi (p : Nat × Nat × Nat) : Int × Int × Int := ((p.1 : Int), (p.2.1 : Int), (p.2.2 : Int))
theorem byte_at (s : ByteArray) (i : Nat) (c : UInt8) (rest : List UInt8) (h : s.data.toList.drop i = c :: rest) : i < s.size ∧ bt s (i : Int) = (c.toNat : Int) ∧ s.data.toList.drop (i + 1) = rest := by
  have hlt : i < s.data.toList.length := by
    rcases Nat.lt_or_ge i s.data.toList.length with h1 | h1
    · exact h1
    · rw [List.drop_of_length_le h1] at h; cases h
  rw [List.drop_eq_getElem_cons hlt] at h
  obtain ⟨h1, h2⟩ := List.cons.inj h
  have hs : i < s.size := by simpa using hlt
  refine ⟨hs, ?_, h2⟩
  unfold bt
  rw [Int.toNat_natCast, dif_pos hs, ← h1]
  rfl
theorem end_at (s : ByteArray) (i : Nat) (h : s.data.toList.drop i = []) (hi : i ≤ s.size) : i = s.size := by
  have := List.drop_eq_nil_iff.mp h
  simp at this
  omega
theorem or_nat (a b : Nat) (ha : a < 18446744073709551616) (hb : b < 18446744073709551616) : Go.bits .or .u64 (a : Int) (b : Int) = ((a ||| b : Nat) : Int) := by
  have hx : a ||| b < 2 ^ 64 := Nat.or_lt_two_pow ha hb
  have h1 : (BitVec.ofInt 64 (a : Int)).toNat = a := by
    rw [BitVec.ofInt_natCast, BitVec.toNat_ofNat]; exact Nat.mod_eq_of_lt ha
  have h2 : (BitVec.ofInt 64 (b : Int)).toNat = b := by
    rw [BitVec.ofInt_natCast, BitVec.toNat_ofNat]; exact Nat.mod_eq_of_lt hb
  show IntKind.u64.wrap ((BitVec.ofInt 64 (a : Int) ||| BitVec.ofInt 64 (b : Int)).toNat : Int) = _
  rw [BitVec.toNat_or, h1, h2, IntKind.wrap_u64]
  have e : (2 : Nat) ^ 64 = 18446744073709551616 := by decide
  omega
theorem low7_fin : ∀ c : Fin 256, Go.bits .and .u8 (c.val : Int) 127 = ((c.val % 128 : Nat) : Int) := by decide +kernel
theorem pow_cast (n : Nat) : ((2 ^ n : Nat) : Int) = (2 : Int) ^ n := by simp
theorem acc_lt (v c i : Nat) (hi : i ≤ 9) (hv : v < 2 ^ (7 * i)) (h9 : ¬ ((i = 9 ∧ 1 < c) ∨ (0 < i ∧ c = 0))) : v + c % 128 * 2 ^ (7 * i) < 18446744073709551616 ∧ v < 18446744073709551616 ∧ c % 128 * 2 ^ (7 * i) < 18446744073709551616 := by
  have e63 : (2 : Nat) ^ (7 * 9) = 9223372036854775808 := by decide
  by_cases h : i = 9
  · subst h
    have : c ≤ 1 := by omega
    have : c % 128 * 2 ^ (7 * 9) ≤ 1 * 2 ^ (7 * 9) := Nat.mul_le_mul_right _ (by omega)
    omega
  · have h1 : (2 : Nat) ^ (7 * i) ≤ 2 ^ (7 * 8) := Nat.pow_le_pow_right (by decide) (by omega)
    have e56 : (2 : Nat) ^ (7 * 8) = 72057594037927936 := by decide
    have : c % 128 * 2 ^ (7 * i) ≤ 127 * 2 ^ (7 * 8) := Nat.mul_le_mul (by omega) h1
    omega
theorem acc_or (v c i : Nat) (hc : c < 256) (hi : i ≤ 9) (hv : v < 2 ^ (7 * i)) (h9 : ¬ ((i = 9 ∧ 1 < c) ∨ (0 < i ∧ c = 0))) :
    Go.bits .or .u64 (v : Int) (shl .u64 (IntKind.u64.wrap (Go.bits .and .u8 (c : Int) 127)) (wrap64 (7 * (i : Int)))) = ((v + c % 128 * 2 ^ (7 * i) : Nat) : Int) := by
  obtain ⟨h1, h2, h3⟩ := acc_lt v c i hi hv h9
  have hl : Go.bits .and .u8 (c : Int) 127 = ((c % 128 : Nat) : Int) := low7_fin ⟨c, hc⟩
  rw [hl, u64_self ((c % 128 : Nat) : Int) (by omega) (by omega), wrap64_self _ (by omega) (by omega), show (7 * (i : Int)) = ((7 * i : Nat) : Int) by omega, shl_nat _ _ _ (by show 7 * i ≤ 64; omega), ← pow_cast, ← Int.natCast_mul, u64_self ((c % 128 * 2 ^ (7 * i) : Nat) : Int) (by omega) (by omega), or_nat _ _ h2 h3]
  congr 1
  rw [Nat.or_comm, Nat.mul_comm, ← Nat.two_pow_add_eq_or_of_lt hv, Nat.add_comm]
theorem get_j (k : Nat) (s : ByteArray) (v i c : Nat) (hi : i < s.size) (hi9 : i ≤ 9) (hb : bt s (i : Int) = (c : Int)) :
    wire_Get.l0 (k + 1) s (v : Int) (s.size : Int) (i : Int) = wire_Get.j1 k s (v : Int) (i : Int) (c : Int) (s.size : Int) (i : Int) (decide ((i = 9 ∧ 1 < c) ∨ (0 < i ∧ c = 0))) := by
  simp only [wire_Get.l0]
  rw [if_pos (by omega), if_pos (by omega), if_pos (by omega), hb]
  by_cases h9 : i = 9
  · rw [if_pos (by omega)]
    by_cases h1 : 1 < c
    · rw [if_pos (by omega), decide_eq_true (.inl ⟨h9, h1⟩)]
    · rw [if_neg (by omega), if_pos (by omega)]
      congr 1
      rw [Bool.eq_iff_iff, beq_iff_eq, decide_eq_true_eq]; omega
  · rw [if_neg (by omega)]
    by_cases h0 : 0 < i
    · rw [if_pos (by omega)]
      congr 1
      rw [Bool.eq_iff_iff, beq_iff_eq, decide_eq_true_eq]; omega
    · rw [if_neg (by omega), decide_eq_false (by omega)]
theorem get_loop (s : ByteArray) : ∀ (l : List UInt8) (i v k : Nat), s.data.toList.drop i = l → i ≤ s.size → i ≤ 9 → v < 2 ^ (7 * i) → 22 ≤ k + 2 * i → wire_Get.l0 k s (v : Int) (s.size : Int) (i : Int) = some (gi (getL l i v))
  | [], i, v, k, h, his, hi9, hv, hk => by
    obtain ⟨k, rfl⟩ : ∃ m, k = m + 1 := ⟨k - 1, by omega⟩
    have := end_at s i h his
    subst this
    simp only [wire_Get.l0]
    rw [if_neg (by omega)]
    rfl
  | c :: l, i, v, k, h, his, hi9, hv, hk => by
    obtain ⟨k, rfl⟩ : ∃ m, k = m + 2 := ⟨k - 2, by omega⟩
    obtain ⟨h1, h2, h3⟩ := byte_at s i c l h
    have hc : c.toNat < 256 := c.toNat_lt
    rw [get_j (k + 1) s v i c.toNat h1 hi9 h2]
    simp only [wire_Get.j1, getL]
    by_cases h9 : (i = 9 ∧ 1 < c.toNat) ∨ (0 < i ∧ c.toNat = 0)
    · rw [if_pos h9, if_pos (decide_eq_true h9)]; rfl
    · rw [if_neg h9, if_neg (by rw [decide_eq_false h9]; decide), if_pos (by rw [wrap64_self _ (by omega) (by omega)]; omega), acc_or v c.toNat i hc hi9 hv h9]
      by_cases hlt : c.toNat < 128
      · rw [if_pos hlt, if_pos (by omega), wrap64_self _ (by omega) (by omega), Nat.mod_eq_of_lt hlt]
        rfl
      · have hp := Nat.two_pow_pos (7 * i)
        have hv2 : v + c.toNat % 128 * 2 ^ (7 * i) < 2 ^ (7 * (i + 1)) := by
          rw [pow7]
          have : c.toNat % 128 * 2 ^ (7 * i) ≤ 127 * 2 ^ (7 * i) := Nat.mul_le_mul_right _ (by omega)
          omega
        rw [if_neg hlt, if_neg (by omega), wrap64_self _ (by omega) (by omega), show ((i : Int) + 1) = ((i + 1 : Nat) : Int) by omega]
        exact get_loop s l (i + 1) _ k h3 (by omega) (by omega) hv2 (by omega)
theorem get_spec (k : Nat) (s : ByteArray) (hk : 22 ≤ k) : wire_Get.f k s = some (gi (getL s.data.toList 0 0)) := by
  unfold wire_Get.f
  exact get_loop s _ 0 0 k rfl (Nat.zero_le _) (by decide) (by decide) (by omega)
end Go.Proofs.YtflojfcioojgbaaGreatDoor.M
