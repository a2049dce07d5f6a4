/- Written for this claim by a program of this session: what the claim uses of lemmas and proved contracts of Go functions. -/
import Derived.Test.YtblnfngigdipcaaDoorZRenMInstN
import Derived.Test.YtblnfngigdipcaaDoorZRenMInstD
import Derived.Test.YtblnfngigdipcaaDoorZRenMMaskU
import Derived.Test.YtblnfngigdipcaaDoorZRenPx8
import Derived.Test.YtblnfngigdipcaaDoorZRenPx7
namespace Go.Proofs.YtblnfngigdipcaaDoor.Pure
open Go.RowKit Go.Proofs.YtblnfngigdipcaaDoor.P Go.Proofs.YtblnfngigdipcaaDoorW.PrintWords Go.Proofs.YtblnfngigdipcaaDoorW.PrintLast Go.Proofs.YtblnfngigdipcaaDoorW.PrintMore Go.Proofs.YtblnfngigdipcaaDoor.M
set_option linter.unusedVariables false
set_option linter.unusedSimpArgs false
theorem rd_ren (l : List Int) (i : Nat) (h : i < l.length) : rd l (i : Int) = l[i] := by
  show l.getD ((i : Int).toNat) 0 = l[i]
  rw [Int.toNat_natCast, List.getD_eq_getElem?_getD, List.getElem?_eq_getElem h]
  rfl
theorem has_loop (l : List Int) (v : Int) (h : l.length < 1000) : ∀ (n i k : Nat), l.length - i = n → i ≤ l.length → n + 1 ≤ k → cleatlaw04_has.l0 k l v (i : Int) = some (decide (v ∈ l.drop i))
  | 0, i, k, hn, hi, hk => by
    obtain ⟨k, rfl⟩ : ∃ m, k = m + 1 := ⟨k - 1, by omega⟩
    simp only [cleatlaw04_has.l0]
    rw [if_neg (by omega), List.drop_eq_nil_of_le (by omega)]
    rfl
  | n + 1, i, k, hn, hi, hk => by
    obtain ⟨k, rfl⟩ : ∃ m, k = m + 1 := ⟨k - 1, by omega⟩
    have hd : l.drop i = l[i]'(by omega) :: l.drop (i + 1) := List.drop_eq_getElem_cons (by omega)
    simp only [cleatlaw04_has.l0]
    rw [if_pos (by omega), if_pos (by omega), rd_ren l i (by omega), hd]
    by_cases hv : l[i]'(by omega) = v
    · rw [if_pos hv]; simp [hv]
    · rw [if_neg hv, w64s _ (by omega) (by omega)]
      have := has_loop l v h n (i + 1) k (by omega) (by omega) (by omega)
      rw [show ((i : Int) + 1) = ((i + 1 : Nat) : Int) by omega, this]
      congr 1
      rw [Bool.eq_iff_iff, decide_eq_true_eq, decide_eq_true_eq, List.mem_cons]
      exact ⟨.inr, fun h => h.resolve_left fun e => hv e.symm⟩
theorem has_mem (k : Nat) (l : List Int) (v : Int) (h : l.length < 1000) (hk : l.length + 1 ≤ k) (hv : v ∈ l) : cleatlaw04_has.f k l v = some true := by
  have := has_loop l v h l.length 0 k (by omega) (by omega) hk
  unfold cleatlaw04_has.f
  rw [show ((0 : Nat) : Int) = 0 from rfl] at this
  rw [this, List.drop_zero, decide_eq_true hv]
/-- Three blocks more. -/
theorem three_new (w : World) (o1 o2 o3 : Obj) : ∃ W, W = ((w.alloc o1).alloc o2).alloc o3 ∧ W.heap[w.heap.size]? = some o1 ∧ W.heap[w.heap.size + 1]? = some o2 ∧ W.heap[w.heap.size + 1 + 1]? = some o3 ∧ Below w.heap.size w W := by
  have e1 : w.heap.size + 1 = (w.alloc o1).heap.size := by show _ = (w.heap.push o1).size; rw [Array.size_push]
  have e2 : w.heap.size + 1 + 1 = ((w.alloc o1).alloc o2).heap.size := by show _ = ((w.alloc o1).heap.push o2).size; rw [Array.size_push, ← e1]
  refine ⟨_, rfl, blk_alloc (blk_alloc (blk_new w o1) o2) o3, ?_, ?_, below_alloc (below_alloc (below_alloc (Below.refl _ _) _) _) _⟩
  · rw [e1]; exact blk_alloc (blk_new _ o2) o3
  · rw [e2]; exact blk_new _ o3
/-- The instruction, the two numbers, and what is made of the instruction. -/
structure RS (w : World) (i : Array Value) (a b : Int) (W : World) : Prop where
  ci : W.heap[w.heap.size]? = some (.cells i 24 (0, 0))
  ca : W.heap[w.heap.size + 1]? = some (.cells #[.int .i64 a] 3 (0, 0))
  cb : W.heap[w.heap.size + 1 + 1]? = some (.cells #[.int .i64 b] 3 (0, 0))
  below : Below w.heap.size w W
theorem RS.step {w W W' : World} {i : Array Value} {a b : Int} (h : RS w i a b W) (hb : Below W.heap.size W W') : RS w i a b W' :=
  ⟨blk_below h.ci hb, blk_below h.ca hb, blk_below h.cb hb, below_step h.below hb⟩
theorem RS.set {w W : World} {i : Array Value} {a b : Int} (h : RS w i a b W) {X : Nat} (hX : w.heap.size + 1 + 1 < X) (j : Nat) (v : Value) : RS w i a b (W.setCell ⟨X, j, none⟩ v) := by
  have far : ∀ (g : Nat) (o : Obj), g ≠ X → W.heap[g]? = some o → (W.setCell ⟨X, j, none⟩ v).heap[g]? = some o := fun g o hne hg => (Below.heap_setCell W ⟨X, j, none⟩ v g hne).trans hg
  exact ⟨far _ _ (by omega) h.ci, far _ _ (by omega) h.ca, far _ _ (by omega) h.cb, below_set h.below (by omega)⟩
theorem swap_at (a b v : Int) (A B : Nat) (W : World) (ha : W.heap[A]? = some (.cells #[.int .i64 a] 3 (0, 0))) (hb : W.heap[B]? = some (.cells #[.int .i64 b] 3 (0, 0))) :
    Calls Tryd.prog 7 #[.int .i64 v, .pointer (some ⟨A, 0, none⟩), .pointer (some ⟨B, 0, none⟩)] W fun e W' => e = .returned (.int .i64 (swp a b v)) ∧ W = W' := by
  have ca : W.cell? ⟨A, 0, none⟩ = some (.int .i64 a) := (blk_cell ha 0).trans rfl
  have cb : W.cell? ⟨B, 0, none⟩ = some (.int .i64 b) := (blk_cell hb 0).trans rfl
  clear ha hb
  unfold swp
  by_cases h1 : v = a
  · rw [if_pos h1]
    have d1 : (v == a) = true := by simpa using h1
    clear h1
    go_enter Tryd.func7, Tryd.ntmps7
    go_wp2
    go_ret
    exact ⟨rfl, rfl⟩
  · rw [if_neg h1]
    have d1 : (v == a) = false := by simpa using h1
    by_cases h2 : v = b
    · rw [if_pos h2]
      have d2 : (v == b) = true := by simpa using h2
      clear h1 h2
      go_enter Tryd.func7, Tryd.ntmps7
      go_wp2
      go_ret
      exact ⟨rfl, rfl⟩
    · rw [if_neg h2]
      have d2 : (v == b) = false := by simpa using h2
      clear h1 h2
      go_enter Tryd.func7, Tryd.ntmps7
      go_wp2
      go_ret
      exact ⟨rfl, rfl⟩
theorem beq_dec (s n : Int) : decide (s = n) = (s == n) := by rw [Bool.eq_iff_iff]; simp
theorem hasD_eq (s : Int) : hasD s = (decide (s ≤ 10) || (s == 16)) := by unfold hasD; rw [beq_dec]
theorem hasN_eq (s : Int) : hasN s = (((decide (s ≥ 2) && decide (s ≤ 8)) || (s == 13)) || (s == 16)) := by unfold hasN; rw [beq_dec, beq_dec]
theorem hasM_eq (s : Int) : hasM s = ((decide (s ≥ 4) && decide (s ≤ 6)) || (s == 16)) := by unfold hasM; rw [beq_dec]
theorem hasA_eq (s : Int) : hasA s = (s == 6) := by unfold hasA; rw [beq_dec]
theorem cond_chain (ok : Bool) (a b op : Int) : (ok = false) ∨ (ok = true ∧ decide (a < 0) = true) ∨ (ok = true ∧ decide (a < 0) = false ∧ decide (a > 30) = true) ∨ (ok = true ∧ decide (a < 0) = false ∧ decide (a > 30) = false ∧ decide (b < 0) = true) ∨
    (ok = true ∧ decide (a < 0) = false ∧ decide (a > 30) = false ∧ decide (b < 0) = false ∧ decide (b > 30) = true) ∨ (ok = true ∧ decide (a < 0) = false ∧ decide (a > 30) = false ∧ decide (b < 0) = false ∧ decide (b > 30) = false ∧ (op == 37) = true) ∨
    (ok = true ∧ decide (a < 0) = false ∧ decide (a > 30) = false ∧ decide (b < 0) = false ∧ decide (b > 30) = false ∧ (op == 37) = false ∧ (op == 30) = true) ∨ (ok = true ∧ decide (a < 0) = false ∧ decide (a > 30) = false ∧ decide (b < 0) = false ∧ decide (b > 30) = false ∧ (op == 37) = false ∧ (op == 30) = false ∧ (op == 35) = true) ∨
    (ok = true ∧ decide (a < 0) = false ∧ decide (a > 30) = false ∧ decide (b < 0) = false ∧ decide (b > 30) = false ∧ (op == 37) = false ∧ (op == 30) = false ∧ (op == 35) = false) := by
  cases ok <;> cases decide (a < 0) <;> cases decide (a > 30) <;> cases decide (b < 0) <;> cases decide (b > 30) <;> cases (op == 37) <;> cases (op == 30) <;> cases (op == 35) <;> simp
def sq : Code → Code
  | .seq _ b => b
  | c => c
noncomputable def renB : Code := (Tryd.f3.body).getD .skip
noncomputable def ren6 : Code := sq (sq (sq (sq (sq renB))))
noncomputable def ren14 : Code := sq (sq (sq (sq ren6)))
def fs : Code → Code
  | .seq a _ => a
  | c => c
noncomputable def ren14r : Code := fs ren14
noncomputable def ren15 : Code := sq ren14
theorem shape_classes (s : Int) (h1 : 1 ≤ s) (h2 : s ≤ 16) : (decide (s ≤ 10) = true ∧ (s == 16) = false ∧ decide (s ≥ 2) = false ∧ decide (s ≤ 8) = true ∧ (s == 13) = false ∧ decide (s ≥ 4) = false ∧ decide (s ≤ 6) = true ∧ (s == 6) = false) ∨ (decide (s ≤ 10) = true ∧ (s == 16) = false ∧ decide (s ≥ 2) = true ∧ decide (s ≤ 8) = true ∧ (s == 13) = false ∧ decide (s ≥ 4) = false ∧ decide (s ≤ 6) = true ∧ (s == 6) = false) ∨ (decide (s ≤ 10) = true ∧ (s == 16) = false ∧ decide (s ≥ 2) = true ∧ decide (s ≤ 8) = true ∧ (s == 13) = false ∧ decide (s ≥ 4) = true ∧ decide (s ≤ 6) = true ∧ (s == 6) = false) ∨ (decide (s ≤ 10) = true ∧ (s == 16) = false ∧ decide (s ≥ 2) = true ∧ decide (s ≤ 8) = true ∧ (s == 13) = false ∧ decide (s ≥ 4) = true ∧ decide (s ≤ 6) = true ∧ (s == 6) = true) ∨ (decide (s ≤ 10) = true ∧ (s == 16) = false ∧ decide (s ≥ 2) = true ∧ decide (s ≤ 8) = true ∧ (s == 13) = false ∧ decide (s ≥ 4) = true ∧ decide (s ≤ 6) = false ∧ (s == 6) = false) ∨ (decide (s ≤ 10) = true ∧ (s == 16) = false ∧ decide (s ≥ 2) = true ∧ decide (s ≤ 8) = false ∧ (s == 13) = false ∧ decide (s ≥ 4) = true ∧ decide (s ≤ 6) = false ∧ (s == 6) = false) ∨ (decide (s ≤ 10) = false ∧ (s == 16) = false ∧ decide (s ≥ 2) = true ∧ decide (s ≤ 8) = false ∧ (s == 13) = false ∧ decide (s ≥ 4) = true ∧ decide (s ≤ 6) = false ∧ (s == 6) = false) ∨ (decide (s ≤ 10) = false ∧ (s == 16) = false ∧ decide (s ≥ 2) = true ∧ decide (s ≤ 8) = false ∧ (s == 13) = true ∧ decide (s ≥ 4) = true ∧ decide (s ≤ 6) = false ∧ (s == 6) = false) ∨ (decide (s ≤ 10) = false ∧ (s == 16) = true ∧ decide (s ≥ 2) = true ∧ decide (s ≤ 8) = false ∧ (s == 13) = false ∧ decide (s ≥ 4) = true ∧ decide (s ≤ 6) = false ∧ (s == 6) = false) := by
  have h : s = 1 ∨ s = 2 ∨ s = 3 ∨ s = 4 ∨ s = 5 ∨ s = 6 ∨ s = 7 ∨ s = 8 ∨ s = 9 ∨ s = 10 ∨ s = 11 ∨ s = 12 ∨ s = 13 ∨ s = 14 ∨ s = 15 ∨ s = 16 := by omega
  rcases h with rfl | rfl | rfl | rfl | rfl | rfl | rfl | rfl | rfl | rfl | rfl | rfl | rfl | rfl | rfl | rfl <;> simp
def RenTail (a0 a1 a2 a3 a4 a5 a6 a7 a8 a9 b1 b2 s : Int) (W : World) (X : Nat) : Prop := ∀ (K : Act → World → Prop) (j1 j2 j3 j4 : Int) (W4 : World) (u10 u11 u12 u13 u14 u15 u16 u17 u18 u19 u20 u21 u22 u23 u24 u25 u26 u27 u28 u29 u30 u31 u32 u33 u34 u35 u36 u37 u38 u39 u40 u41 u42 u43 u44 u45 u46 u47 u48 u49 u50 u51 u52 u53 u54 u55 u56 u57 u58 u59 u60 u61 u62 u63 u64 u65 u66 u67 u68 u69 u70 u71 u72 u73 u74 u75 u76 u77 u78 u79 u80 u81 u82 u83 u84 u85 u86 u87 u88 u89 u90 u91 u92 u93 u94 u95 u96 u97 u98 u99 u100 u101 u102 u103 u104 u105 u106 u107 u108 u109 u110 u111 u112 u113 u114 u115 u116 u117 u118 u119 u120 u121 u122 u123 u124 u125 u126 u127 u128 u129 u130 u131 u132 u133 u134 u135 u136 u137 u138 u139 u140 u141 u142 u143 u144 u145 u146 u147 u148 u149 u150 u151 u152 u153 u154 u155 u156 u157 u158 u159 u160 u161 u162 u163 u164 u165 : Value), (∀ a w, Code.wp Tryd.prog ren15 (bodyPost Tryd.prog Tryd.f3 fun e w' => e = .returned (.bool true) ∧ Below W.heap.size W w') a w → K a w) → j1 = swF (hasD s) b1 b2 a1 → j2 = swF (hasN s) b1 b2 a2 → j3 = swF (hasM s) b1 b2 a3 → j4 = swF (hasA s) b1 b2 a4 → RS W #[.int .i64 a0, .int .i64 a1, .int .i64 a2, .int .i64 a3, .int .i64 a4, .int .i64 a5, .int .u64 a6, .int .i64 a7, .int .i64 a8, .int .i64 a9] b1 b2 W4 → W4.heap[X]? = some (.cells #[.int .i64 a0, .int .i64 j1, .int .i64 j2, .int .i64 j3, .int .i64 j4, .int .i64 a5, .int .u64 a6, .int .i64 a7, .int .i64 a8, .int .i64 a9] 24 (0, 0)) →
    Code.wp Tryd.prog ren14r (Exit.then K (bodyPost Tryd.prog Tryd.f3 fun e w' => e = .returned (.bool true) ∧ Below W.heap.size W w')) { tmps := #[.agg #[.int .i64 a0, .int .i64 a1, .int .i64 a2, .int .i64 a3, .int .i64 a4, .int .i64 a5, .int .u64 a6, .int .i64 a7, .int .i64 a8, .int .i64 a9], .int .i64 b1, .int .i64 b2, .pointer (some ⟨W.heap.size, 0, none⟩), .pointer (some ⟨W.heap.size + 1, 0, none⟩), .pointer (some ⟨W.heap.size + 1 + 1, 0, none⟩), .bool false, .int .i64 s, .func (.func 7) #[] #[.pointer (some ⟨W.heap.size + 1, 0, none⟩), .pointer (some ⟨W.heap.size + 1 + 1, 0, none⟩)], .pointer (some ⟨X, 0, none⟩), u10, u11, u12, u13, u14, u15, u16, u17, u18, u19, u20, u21, u22, u23, u24, u25, u26, u27, u28, u29, u30, u31, u32, u33, u34, u35, u36, u37, u38, u39, u40, u41, u42, u43, u44, u45, u46, u47, u48, u49, u50, u51, u52, u53, u54, u55, u56, u57, u58, u59, u60, u61, u62, u63, u64, u65, u66, u67, u68, u69, u70, u71, u72, u73, u74, u75, u76, u77, u78, u79, u80, u81, u82, u83, u84, u85, u86, u87, u88, u89, u90, u91, u92, u93, u94, u95, u96, u97, u98, u99, u100, u101, u102, u103, u104, u105, u106, u107, u108, u109, u110, u111, u112, u113, u114, u115, u116, u117, u118, u119, u120, u121, u122, u123, u124, u125, u126, u127, u128, u129, u130, u131, u132, u133, u134, u135, u136, u137, u138, u139, u140, u141, u142, u143, u144, u145, u146, u147, u148, u149, u150, u151, u152, u153, u154, u155, u156, u157, u158, u159, u160, u161, u162, u163, u164, u165], defers := [] } W4
set_option maxHeartbeats 4000000 in
set_option maxRecDepth 100000 in
theorem ren_ifs (a0 a1 a2 a3 a4 a5 a6 a7 a8 a9 b1 b2 s : Int) (W W4 : World) (X : Nat) (u10 u11 u12 u13 u14 u15 u16 u17 u18 u19 u20 u21 u22 u23 u24 u25 u26 u27 u28 u29 u30 u31 u32 u33 u34 u35 u36 u37 u38 u39 u40 u41 u42 u43 u44 u45 u46 u47 u48 u49 u50 u51 u52 u53 u54 u55 u56 u57 u58 u59 u60 u61 u62 u63 u64 u65 u66 u67 u68 u69 u70 u71 u72 u73 u74 u75 u76 u77 u78 u79 u80 u81 u82 u83 u84 u85 u86 u87 u88 u89 u90 u91 u92 u93 u94 u95 u96 u97 u98 u99 u100 u101 u102 u103 u104 u105 u106 u107 u108 u109 u110 u111 u112 u113 u114 u115 u116 u117 u118 u119 u120 u121 u122 u123 u124 u125 u126 u127 u128 u129 u130 u131 u132 u133 u134 u135 u136 u137 u138 u139 u140 u141 u142 u143 u144 u145 u146 u147 u148 u149 u150 u151 u152 u153 u154 u155 u156 u157 u158 u159 u160 u161 u162 u163 u164 u165 : Value) (hX : W.heap.size + 1 + 1 < X) (h4 : RS W #[.int .i64 a0, .int .i64 a1, .int .i64 a2, .int .i64 a3, .int .i64 a4, .int .i64 a5, .int .u64 a6, .int .i64 a7, .int .i64 a8, .int .i64 a9] b1 b2 W4) (j4 : W4.heap[X]? = some (.cells #[.int .i64 a0, .int .i64 a1, .int .i64 a2, .int .i64 a3, .int .i64 a4, .int .i64 a5, .int .u64 a6, .int .i64 a7, .int .i64 a8, .int .i64 a9] 24 (0, 0))) (hs : 1 ≤ s ∧ s ≤ 16) (htl : RenTail a0 a1 a2 a3 a4 a5 a6 a7 a8 a9 b1 b2 s W X) :
    Code.wp Tryd.prog ren6 (bodyPost Tryd.prog Tryd.f3 fun e w' => e = .returned (.bool true) ∧ Below W.heap.size W w') { tmps := #[.agg #[.int .i64 a0, .int .i64 a1, .int .i64 a2, .int .i64 a3, .int .i64 a4, .int .i64 a5, .int .u64 a6, .int .i64 a7, .int .i64 a8, .int .i64 a9], .int .i64 b1, .int .i64 b2, .pointer (some ⟨W.heap.size, 0, none⟩), .pointer (some ⟨W.heap.size + 1, 0, none⟩), .pointer (some ⟨W.heap.size + 1 + 1, 0, none⟩), .bool false, .int .i64 s, .func (.func 7) #[] #[.pointer (some ⟨W.heap.size + 1, 0, none⟩), .pointer (some ⟨W.heap.size + 1 + 1, 0, none⟩)], .pointer (some ⟨X, 0, none⟩), u10, u11, u12, u13, u14, u15, u16, u17, u18, u19, u20, u21, u22, u23, u24, u25, u26, u27, u28, u29, u30, u31, u32, u33, u34, u35, u36, u37, u38, u39, u40, u41, u42, u43, u44, u45, u46, u47, u48, u49, u50, u51, u52, u53, u54, u55, u56, u57, u58, u59, u60, u61, u62, u63, u64, u65, u66, u67, u68, u69, u70, u71, u72, u73, u74, u75, u76, u77, u78, u79, u80, u81, u82, u83, u84, u85, u86, u87, u88, u89, u90, u91, u92, u93, u94, u95, u96, u97, u98, u99, u100, u101, u102, u103, u104, u105, u106, u107, u108, u109, u110, u111, u112, u113, u114, u115, u116, u117, u118, u119, u120, u121, u122, u123, u124, u125, u126, u127, u128, u129, u130, u131, u132, u133, u134, u135, u136, u137, u138, u139, u140, u141, u142, u143, u144, u145, u146, u147, u148, u149, u150, u151, u152, u153, u154, u155, u156, u157, u158, u159, u160, u161, u162, u163, u164, u165], defers := [] } W4 := by
  have HX := Aside0.mk hX
  have H4 := Aside0.mk h4
  have J4 := Aside0.mk j4
  have HTL := Aside0.mk htl
  have hcl := shape_classes s hs.1 hs.2
  clear hX h4 j4 hs htl
  dsimp only
  obtain ⟨code, hcode⟩ : ∃ c, c = ren6 := ⟨_, rfl⟩
  rw [← hcode]
  simp only [ren6, renB, sq, Tryd.f3, Option.getD_some] at hcode
  subst hcode
  rcases hcl with ⟨e0, e1, e2, e3, e4, e5, e6, e7⟩ | ⟨e0, e1, e2, e3, e4, e5, e6, e7⟩ | ⟨e0, e1, e2, e3, e4, e5, e6, e7⟩ | ⟨e0, e1, e2, e3, e4, e5, e6, e7⟩ | ⟨e0, e1, e2, e3, e4, e5, e6, e7⟩ | ⟨e0, e1, e2, e3, e4, e5, e6, e7⟩ | ⟨e0, e1, e2, e3, e4, e5, e6, e7⟩ | ⟨e0, e1, e2, e3, e4, e5, e6, e7⟩ | ⟨e0, e1, e2, e3, e4, e5, e6, e7⟩
  · have q1 : hasD s = true := by rw [hasD_eq, e0, e1]; rfl
    have q2 : hasN s = false := by rw [hasN_eq, e2, e3, e4, e1]; rfl
    have q3 : hasM s = false := by rw [hasM_eq, e5, e6, e1]; rfl
    have q4 : hasA s = false := by rw [hasA_eq, e7]
    have HQ := Aside0.mk (And.intro q1 (And.intro q2 (And.intro q3 q4)))
    clear q1 q2 q3 q4
    have ci : W4.cell? ⟨W.heap.size, 1, none⟩ = some (.int .i64 a1) := (blk_cell H4.out.ci 1).trans rfl
    have cx : W4.cell? ⟨X, 1, none⟩ = some (.int .i64 a1) := (blk_cell J4.out 1).trans rfl
    have fx := blk_frozen J4.out 1
    go_upto_region 8 with ((with_reducible refine (swap_at b1 b2 a1 _ _ _ H4.out.ca H4.out.cb).mono ?_); rintro e w1_ ⟨rfl, rfl⟩)
    clear ci cx fx
    have H5 := Aside0.mk (H4.out.set HX.out 1 (.int .i64 (swp b1 b2 a1)))
    have J5 := Aside0.mk (blk_set J4.out 1 (.int .i64 (swp b1 b2 a1)))
    generalize W4.setCell ⟨X, 1, none⟩ (.int .i64 (swp b1 b2 a1)) = W5 at *
    go_upto_region 14 with fail
    obtain ⟨q1, q2, q3, q4⟩ := HQ.out
    refine HTL.out _ (swp b1 b2 a1) a2 a3 a4 W5 _ _ _ _ _ _ _ _ _ _ _ _ _ _ _ _ _ _ _ _ _ _ _ _ _ _ _ _ _ _ _ _ _ _ _ _ _ _ _ _ _ _ _ _ _ _ _ _ _ _ _ _ _ _ _ _ _ _ _ _ _ _ _ _ _ _ _ _ _ _ _ _ _ _ _ _ _ _ _ _ _ _ _ _ _ _ _ _ _ _ _ _ _ _ _ _ _ _ _ _ _ _ _ _ _ _ _ _ _ _ _ _ _ _ _ _ _ _ _ _ _ _ _ _ _ _ _ _ _ _ _ _ _ _ _ _ _ _ _ _ _ _ _ _ _ _ _ _ _ _ _ _ _ _ _ _ (fun a w h => ‹∀ (a : Act) (w : World), Code.wp _ _ _ a w → _› a w h) (by rw [q1]; rfl) (by rw [q2]; rfl) (by rw [q3]; rfl) (by rw [q4]; rfl) H5.out J5.out
  · have q1 : hasD s = true := by rw [hasD_eq, e0, e1]; rfl
    have q2 : hasN s = true := by rw [hasN_eq, e2, e3, e4, e1]; rfl
    have q3 : hasM s = false := by rw [hasM_eq, e5, e6, e1]; rfl
    have q4 : hasA s = false := by rw [hasA_eq, e7]
    have HQ := Aside0.mk (And.intro q1 (And.intro q2 (And.intro q3 q4)))
    clear q1 q2 q3 q4
    have ci : W4.cell? ⟨W.heap.size, 1, none⟩ = some (.int .i64 a1) := (blk_cell H4.out.ci 1).trans rfl
    have cx : W4.cell? ⟨X, 1, none⟩ = some (.int .i64 a1) := (blk_cell J4.out 1).trans rfl
    have fx := blk_frozen J4.out 1
    go_upto_region 8 with ((with_reducible refine (swap_at b1 b2 a1 _ _ _ H4.out.ca H4.out.cb).mono ?_); rintro e w1_ ⟨rfl, rfl⟩)
    clear ci cx fx
    have H5 := Aside0.mk (H4.out.set HX.out 1 (.int .i64 (swp b1 b2 a1)))
    have J5 := Aside0.mk (blk_set J4.out 1 (.int .i64 (swp b1 b2 a1)))
    generalize W4.setCell ⟨X, 1, none⟩ (.int .i64 (swp b1 b2 a1)) = W5 at *
    have ci : W5.cell? ⟨W.heap.size, 2, none⟩ = some (.int .i64 a2) := (blk_cell H5.out.ci 2).trans rfl
    have cx : W5.cell? ⟨X, 2, none⟩ = some (.int .i64 a2) := (blk_cell J5.out 2).trans rfl
    have fx := blk_frozen J5.out 2
    go_upto_region 10 with ((with_reducible refine (swap_at b1 b2 a2 _ _ _ H5.out.ca H5.out.cb).mono ?_); rintro e w1_ ⟨rfl, rfl⟩)
    clear ci cx fx
    have H6 := Aside0.mk (H5.out.set HX.out 2 (.int .i64 (swp b1 b2 a2)))
    have J6 := Aside0.mk (blk_set J5.out 2 (.int .i64 (swp b1 b2 a2)))
    generalize W5.setCell ⟨X, 2, none⟩ (.int .i64 (swp b1 b2 a2)) = W6 at *
    go_upto_region 14 with fail
    obtain ⟨q1, q2, q3, q4⟩ := HQ.out
    refine HTL.out _ (swp b1 b2 a1) (swp b1 b2 a2) a3 a4 W6 _ _ _ _ _ _ _ _ _ _ _ _ _ _ _ _ _ _ _ _ _ _ _ _ _ _ _ _ _ _ _ _ _ _ _ _ _ _ _ _ _ _ _ _ _ _ _ _ _ _ _ _ _ _ _ _ _ _ _ _ _ _ _ _ _ _ _ _ _ _ _ _ _ _ _ _ _ _ _ _ _ _ _ _ _ _ _ _ _ _ _ _ _ _ _ _ _ _ _ _ _ _ _ _ _ _ _ _ _ _ _ _ _ _ _ _ _ _ _ _ _ _ _ _ _ _ _ _ _ _ _ _ _ _ _ _ _ _ _ _ _ _ _ _ _ _ _ _ _ _ _ _ _ _ _ _ (fun a w h => ‹∀ (a : Act) (w : World), Code.wp _ _ _ a w → _› a w h) (by rw [q1]; rfl) (by rw [q2]; rfl) (by rw [q3]; rfl) (by rw [q4]; rfl) H6.out J6.out
  · have q1 : hasD s = true := by rw [hasD_eq, e0, e1]; rfl
    have q2 : hasN s = true := by rw [hasN_eq, e2, e3, e4, e1]; rfl
    have q3 : hasM s = true := by rw [hasM_eq, e5, e6, e1]; rfl
    have q4 : hasA s = false := by rw [hasA_eq, e7]
    have HQ := Aside0.mk (And.intro q1 (And.intro q2 (And.intro q3 q4)))
    clear q1 q2 q3 q4
    have ci : W4.cell? ⟨W.heap.size, 1, none⟩ = some (.int .i64 a1) := (blk_cell H4.out.ci 1).trans rfl
    have cx : W4.cell? ⟨X, 1, none⟩ = some (.int .i64 a1) := (blk_cell J4.out 1).trans rfl
    have fx := blk_frozen J4.out 1
    go_upto_region 8 with ((with_reducible refine (swap_at b1 b2 a1 _ _ _ H4.out.ca H4.out.cb).mono ?_); rintro e w1_ ⟨rfl, rfl⟩)
    clear ci cx fx
    have H5 := Aside0.mk (H4.out.set HX.out 1 (.int .i64 (swp b1 b2 a1)))
    have J5 := Aside0.mk (blk_set J4.out 1 (.int .i64 (swp b1 b2 a1)))
    generalize W4.setCell ⟨X, 1, none⟩ (.int .i64 (swp b1 b2 a1)) = W5 at *
    have ci : W5.cell? ⟨W.heap.size, 2, none⟩ = some (.int .i64 a2) := (blk_cell H5.out.ci 2).trans rfl
    have cx : W5.cell? ⟨X, 2, none⟩ = some (.int .i64 a2) := (blk_cell J5.out 2).trans rfl
    have fx := blk_frozen J5.out 2
    go_upto_region 10 with ((with_reducible refine (swap_at b1 b2 a2 _ _ _ H5.out.ca H5.out.cb).mono ?_); rintro e w1_ ⟨rfl, rfl⟩)
    clear ci cx fx
    have H6 := Aside0.mk (H5.out.set HX.out 2 (.int .i64 (swp b1 b2 a2)))
    have J6 := Aside0.mk (blk_set J5.out 2 (.int .i64 (swp b1 b2 a2)))
    generalize W5.setCell ⟨X, 2, none⟩ (.int .i64 (swp b1 b2 a2)) = W6 at *
    have ci : W6.cell? ⟨W.heap.size, 3, none⟩ = some (.int .i64 a3) := (blk_cell H6.out.ci 3).trans rfl
    have cx : W6.cell? ⟨X, 3, none⟩ = some (.int .i64 a3) := (blk_cell J6.out 3).trans rfl
    have fx := blk_frozen J6.out 3
    go_upto_region 12 with ((with_reducible refine (swap_at b1 b2 a3 _ _ _ H6.out.ca H6.out.cb).mono ?_); rintro e w1_ ⟨rfl, rfl⟩)
    clear ci cx fx
    have H7 := Aside0.mk (H6.out.set HX.out 3 (.int .i64 (swp b1 b2 a3)))
    have J7 := Aside0.mk (blk_set J6.out 3 (.int .i64 (swp b1 b2 a3)))
    generalize W6.setCell ⟨X, 3, none⟩ (.int .i64 (swp b1 b2 a3)) = W7 at *
    go_upto_region 14 with fail
    obtain ⟨q1, q2, q3, q4⟩ := HQ.out
    refine HTL.out _ (swp b1 b2 a1) (swp b1 b2 a2) (swp b1 b2 a3) a4 W7 _ _ _ _ _ _ _ _ _ _ _ _ _ _ _ _ _ _ _ _ _ _ _ _ _ _ _ _ _ _ _ _ _ _ _ _ _ _ _ _ _ _ _ _ _ _ _ _ _ _ _ _ _ _ _ _ _ _ _ _ _ _ _ _ _ _ _ _ _ _ _ _ _ _ _ _ _ _ _ _ _ _ _ _ _ _ _ _ _ _ _ _ _ _ _ _ _ _ _ _ _ _ _ _ _ _ _ _ _ _ _ _ _ _ _ _ _ _ _ _ _ _ _ _ _ _ _ _ _ _ _ _ _ _ _ _ _ _ _ _ _ _ _ _ _ _ _ _ _ _ _ _ _ _ _ _ (fun a w h => ‹∀ (a : Act) (w : World), Code.wp _ _ _ a w → _› a w h) (by rw [q1]; rfl) (by rw [q2]; rfl) (by rw [q3]; rfl) (by rw [q4]; rfl) H7.out J7.out
  · have q1 : hasD s = true := by rw [hasD_eq, e0, e1]; rfl
    have q2 : hasN s = true := by rw [hasN_eq, e2, e3, e4, e1]; rfl
    have q3 : hasM s = true := by rw [hasM_eq, e5, e6, e1]; rfl
    have q4 : hasA s = true := by rw [hasA_eq, e7]
    have HQ := Aside0.mk (And.intro q1 (And.intro q2 (And.intro q3 q4)))
    clear q1 q2 q3 q4
    have ci : W4.cell? ⟨W.heap.size, 1, none⟩ = some (.int .i64 a1) := (blk_cell H4.out.ci 1).trans rfl
    have cx : W4.cell? ⟨X, 1, none⟩ = some (.int .i64 a1) := (blk_cell J4.out 1).trans rfl
    have fx := blk_frozen J4.out 1
    go_upto_region 8 with ((with_reducible refine (swap_at b1 b2 a1 _ _ _ H4.out.ca H4.out.cb).mono ?_); rintro e w1_ ⟨rfl, rfl⟩)
    clear ci cx fx
    have H5 := Aside0.mk (H4.out.set HX.out 1 (.int .i64 (swp b1 b2 a1)))
    have J5 := Aside0.mk (blk_set J4.out 1 (.int .i64 (swp b1 b2 a1)))
    generalize W4.setCell ⟨X, 1, none⟩ (.int .i64 (swp b1 b2 a1)) = W5 at *
    have ci : W5.cell? ⟨W.heap.size, 2, none⟩ = some (.int .i64 a2) := (blk_cell H5.out.ci 2).trans rfl
    have cx : W5.cell? ⟨X, 2, none⟩ = some (.int .i64 a2) := (blk_cell J5.out 2).trans rfl
    have fx := blk_frozen J5.out 2
    go_upto_region 10 with ((with_reducible refine (swap_at b1 b2 a2 _ _ _ H5.out.ca H5.out.cb).mono ?_); rintro e w1_ ⟨rfl, rfl⟩)
    clear ci cx fx
    have H6 := Aside0.mk (H5.out.set HX.out 2 (.int .i64 (swp b1 b2 a2)))
    have J6 := Aside0.mk (blk_set J5.out 2 (.int .i64 (swp b1 b2 a2)))
    generalize W5.setCell ⟨X, 2, none⟩ (.int .i64 (swp b1 b2 a2)) = W6 at *
    have ci : W6.cell? ⟨W.heap.size, 3, none⟩ = some (.int .i64 a3) := (blk_cell H6.out.ci 3).trans rfl
    have cx : W6.cell? ⟨X, 3, none⟩ = some (.int .i64 a3) := (blk_cell J6.out 3).trans rfl
    have fx := blk_frozen J6.out 3
    go_upto_region 12 with ((with_reducible refine (swap_at b1 b2 a3 _ _ _ H6.out.ca H6.out.cb).mono ?_); rintro e w1_ ⟨rfl, rfl⟩)
    clear ci cx fx
    have H7 := Aside0.mk (H6.out.set HX.out 3 (.int .i64 (swp b1 b2 a3)))
    have J7 := Aside0.mk (blk_set J6.out 3 (.int .i64 (swp b1 b2 a3)))
    generalize W6.setCell ⟨X, 3, none⟩ (.int .i64 (swp b1 b2 a3)) = W7 at *
    have ci : W7.cell? ⟨W.heap.size, 4, none⟩ = some (.int .i64 a4) := (blk_cell H7.out.ci 4).trans rfl
    have cx : W7.cell? ⟨X, 4, none⟩ = some (.int .i64 a4) := (blk_cell J7.out 4).trans rfl
    have fx := blk_frozen J7.out 4
    go_upto_region 14 with ((with_reducible refine (swap_at b1 b2 a4 _ _ _ H7.out.ca H7.out.cb).mono ?_); rintro e w1_ ⟨rfl, rfl⟩)
    clear ci cx fx
    have H8 := Aside0.mk (H7.out.set HX.out 4 (.int .i64 (swp b1 b2 a4)))
    have J8 := Aside0.mk (blk_set J7.out 4 (.int .i64 (swp b1 b2 a4)))
    generalize W7.setCell ⟨X, 4, none⟩ (.int .i64 (swp b1 b2 a4)) = W8 at *
    obtain ⟨q1, q2, q3, q4⟩ := HQ.out
    refine HTL.out _ (swp b1 b2 a1) (swp b1 b2 a2) (swp b1 b2 a3) (swp b1 b2 a4) W8 _ _ _ _ _ _ _ _ _ _ _ _ _ _ _ _ _ _ _ _ _ _ _ _ _ _ _ _ _ _ _ _ _ _ _ _ _ _ _ _ _ _ _ _ _ _ _ _ _ _ _ _ _ _ _ _ _ _ _ _ _ _ _ _ _ _ _ _ _ _ _ _ _ _ _ _ _ _ _ _ _ _ _ _ _ _ _ _ _ _ _ _ _ _ _ _ _ _ _ _ _ _ _ _ _ _ _ _ _ _ _ _ _ _ _ _ _ _ _ _ _ _ _ _ _ _ _ _ _ _ _ _ _ _ _ _ _ _ _ _ _ _ _ _ _ _ _ _ _ _ _ _ _ _ _ _ (fun a w h => ‹∀ (a : Act) (w : World), Code.wp _ _ _ a w → _› a w h) (by rw [q1]; rfl) (by rw [q2]; rfl) (by rw [q3]; rfl) (by rw [q4]; rfl) H8.out J8.out
  · have q1 : hasD s = true := by rw [hasD_eq, e0, e1]; rfl
    have q2 : hasN s = true := by rw [hasN_eq, e2, e3, e4, e1]; rfl
    have q3 : hasM s = false := by rw [hasM_eq, e5, e6, e1]; rfl
    have q4 : hasA s = false := by rw [hasA_eq, e7]
    have HQ := Aside0.mk (And.intro q1 (And.intro q2 (And.intro q3 q4)))
    clear q1 q2 q3 q4
    have ci : W4.cell? ⟨W.heap.size, 1, none⟩ = some (.int .i64 a1) := (blk_cell H4.out.ci 1).trans rfl
    have cx : W4.cell? ⟨X, 1, none⟩ = some (.int .i64 a1) := (blk_cell J4.out 1).trans rfl
    have fx := blk_frozen J4.out 1
    go_upto_region 8 with ((with_reducible refine (swap_at b1 b2 a1 _ _ _ H4.out.ca H4.out.cb).mono ?_); rintro e w1_ ⟨rfl, rfl⟩)
    clear ci cx fx
    have H5 := Aside0.mk (H4.out.set HX.out 1 (.int .i64 (swp b1 b2 a1)))
    have J5 := Aside0.mk (blk_set J4.out 1 (.int .i64 (swp b1 b2 a1)))
    generalize W4.setCell ⟨X, 1, none⟩ (.int .i64 (swp b1 b2 a1)) = W5 at *
    have ci : W5.cell? ⟨W.heap.size, 2, none⟩ = some (.int .i64 a2) := (blk_cell H5.out.ci 2).trans rfl
    have cx : W5.cell? ⟨X, 2, none⟩ = some (.int .i64 a2) := (blk_cell J5.out 2).trans rfl
    have fx := blk_frozen J5.out 2
    go_upto_region 10 with ((with_reducible refine (swap_at b1 b2 a2 _ _ _ H5.out.ca H5.out.cb).mono ?_); rintro e w1_ ⟨rfl, rfl⟩)
    clear ci cx fx
    have H6 := Aside0.mk (H5.out.set HX.out 2 (.int .i64 (swp b1 b2 a2)))
    have J6 := Aside0.mk (blk_set J5.out 2 (.int .i64 (swp b1 b2 a2)))
    generalize W5.setCell ⟨X, 2, none⟩ (.int .i64 (swp b1 b2 a2)) = W6 at *
    go_upto_region 14 with fail
    obtain ⟨q1, q2, q3, q4⟩ := HQ.out
    refine HTL.out _ (swp b1 b2 a1) (swp b1 b2 a2) a3 a4 W6 _ _ _ _ _ _ _ _ _ _ _ _ _ _ _ _ _ _ _ _ _ _ _ _ _ _ _ _ _ _ _ _ _ _ _ _ _ _ _ _ _ _ _ _ _ _ _ _ _ _ _ _ _ _ _ _ _ _ _ _ _ _ _ _ _ _ _ _ _ _ _ _ _ _ _ _ _ _ _ _ _ _ _ _ _ _ _ _ _ _ _ _ _ _ _ _ _ _ _ _ _ _ _ _ _ _ _ _ _ _ _ _ _ _ _ _ _ _ _ _ _ _ _ _ _ _ _ _ _ _ _ _ _ _ _ _ _ _ _ _ _ _ _ _ _ _ _ _ _ _ _ _ _ _ _ _ (fun a w h => ‹∀ (a : Act) (w : World), Code.wp _ _ _ a w → _› a w h) (by rw [q1]; rfl) (by rw [q2]; rfl) (by rw [q3]; rfl) (by rw [q4]; rfl) H6.out J6.out
  · have q1 : hasD s = true := by rw [hasD_eq, e0, e1]; rfl
    have q2 : hasN s = false := by rw [hasN_eq, e2, e3, e4, e1]; rfl
    have q3 : hasM s = false := by rw [hasM_eq, e5, e6, e1]; rfl
    have q4 : hasA s = false := by rw [hasA_eq, e7]
    have HQ := Aside0.mk (And.intro q1 (And.intro q2 (And.intro q3 q4)))
    clear q1 q2 q3 q4
    have ci : W4.cell? ⟨W.heap.size, 1, none⟩ = some (.int .i64 a1) := (blk_cell H4.out.ci 1).trans rfl
    have cx : W4.cell? ⟨X, 1, none⟩ = some (.int .i64 a1) := (blk_cell J4.out 1).trans rfl
    have fx := blk_frozen J4.out 1
    go_upto_region 8 with ((with_reducible refine (swap_at b1 b2 a1 _ _ _ H4.out.ca H4.out.cb).mono ?_); rintro e w1_ ⟨rfl, rfl⟩)
    clear ci cx fx
    have H5 := Aside0.mk (H4.out.set HX.out 1 (.int .i64 (swp b1 b2 a1)))
    have J5 := Aside0.mk (blk_set J4.out 1 (.int .i64 (swp b1 b2 a1)))
    generalize W4.setCell ⟨X, 1, none⟩ (.int .i64 (swp b1 b2 a1)) = W5 at *
    go_upto_region 14 with fail
    obtain ⟨q1, q2, q3, q4⟩ := HQ.out
    refine HTL.out _ (swp b1 b2 a1) a2 a3 a4 W5 _ _ _ _ _ _ _ _ _ _ _ _ _ _ _ _ _ _ _ _ _ _ _ _ _ _ _ _ _ _ _ _ _ _ _ _ _ _ _ _ _ _ _ _ _ _ _ _ _ _ _ _ _ _ _ _ _ _ _ _ _ _ _ _ _ _ _ _ _ _ _ _ _ _ _ _ _ _ _ _ _ _ _ _ _ _ _ _ _ _ _ _ _ _ _ _ _ _ _ _ _ _ _ _ _ _ _ _ _ _ _ _ _ _ _ _ _ _ _ _ _ _ _ _ _ _ _ _ _ _ _ _ _ _ _ _ _ _ _ _ _ _ _ _ _ _ _ _ _ _ _ _ _ _ _ _ (fun a w h => ‹∀ (a : Act) (w : World), Code.wp _ _ _ a w → _› a w h) (by rw [q1]; rfl) (by rw [q2]; rfl) (by rw [q3]; rfl) (by rw [q4]; rfl) H5.out J5.out
  · have q1 : hasD s = false := by rw [hasD_eq, e0, e1]; rfl
    have q2 : hasN s = false := by rw [hasN_eq, e2, e3, e4, e1]; rfl
    have q3 : hasM s = false := by rw [hasM_eq, e5, e6, e1]; rfl
    have q4 : hasA s = false := by rw [hasA_eq, e7]
    have HQ := Aside0.mk (And.intro q1 (And.intro q2 (And.intro q3 q4)))
    clear q1 q2 q3 q4
    go_upto_region 14 with fail
    obtain ⟨q1, q2, q3, q4⟩ := HQ.out
    refine HTL.out _ a1 a2 a3 a4 W4 _ _ _ _ _ _ _ _ _ _ _ _ _ _ _ _ _ _ _ _ _ _ _ _ _ _ _ _ _ _ _ _ _ _ _ _ _ _ _ _ _ _ _ _ _ _ _ _ _ _ _ _ _ _ _ _ _ _ _ _ _ _ _ _ _ _ _ _ _ _ _ _ _ _ _ _ _ _ _ _ _ _ _ _ _ _ _ _ _ _ _ _ _ _ _ _ _ _ _ _ _ _ _ _ _ _ _ _ _ _ _ _ _ _ _ _ _ _ _ _ _ _ _ _ _ _ _ _ _ _ _ _ _ _ _ _ _ _ _ _ _ _ _ _ _ _ _ _ _ _ _ _ _ _ _ _ (fun a w h => ‹∀ (a : Act) (w : World), Code.wp _ _ _ a w → _› a w h) (by rw [q1]; rfl) (by rw [q2]; rfl) (by rw [q3]; rfl) (by rw [q4]; rfl) H4.out J4.out
  · have q1 : hasD s = false := by rw [hasD_eq, e0, e1]; rfl
    have q2 : hasN s = true := by rw [hasN_eq, e2, e3, e4, e1]; rfl
    have q3 : hasM s = false := by rw [hasM_eq, e5, e6, e1]; rfl
    have q4 : hasA s = false := by rw [hasA_eq, e7]
    have HQ := Aside0.mk (And.intro q1 (And.intro q2 (And.intro q3 q4)))
    clear q1 q2 q3 q4
    have ci : W4.cell? ⟨W.heap.size, 2, none⟩ = some (.int .i64 a2) := (blk_cell H4.out.ci 2).trans rfl
    have cx : W4.cell? ⟨X, 2, none⟩ = some (.int .i64 a2) := (blk_cell J4.out 2).trans rfl
    have fx := blk_frozen J4.out 2
    go_upto_region 10 with ((with_reducible refine (swap_at b1 b2 a2 _ _ _ H4.out.ca H4.out.cb).mono ?_); rintro e w1_ ⟨rfl, rfl⟩)
    clear ci cx fx
    have H6 := Aside0.mk (H4.out.set HX.out 2 (.int .i64 (swp b1 b2 a2)))
    have J6 := Aside0.mk (blk_set J4.out 2 (.int .i64 (swp b1 b2 a2)))
    generalize W4.setCell ⟨X, 2, none⟩ (.int .i64 (swp b1 b2 a2)) = W6 at *
    go_upto_region 14 with fail
    obtain ⟨q1, q2, q3, q4⟩ := HQ.out
    refine HTL.out _ a1 (swp b1 b2 a2) a3 a4 W6 _ _ _ _ _ _ _ _ _ _ _ _ _ _ _ _ _ _ _ _ _ _ _ _ _ _ _ _ _ _ _ _ _ _ _ _ _ _ _ _ _ _ _ _ _ _ _ _ _ _ _ _ _ _ _ _ _ _ _ _ _ _ _ _ _ _ _ _ _ _ _ _ _ _ _ _ _ _ _ _ _ _ _ _ _ _ _ _ _ _ _ _ _ _ _ _ _ _ _ _ _ _ _ _ _ _ _ _ _ _ _ _ _ _ _ _ _ _ _ _ _ _ _ _ _ _ _ _ _ _ _ _ _ _ _ _ _ _ _ _ _ _ _ _ _ _ _ _ _ _ _ _ _ _ _ _ (fun a w h => ‹∀ (a : Act) (w : World), Code.wp _ _ _ a w → _› a w h) (by rw [q1]; rfl) (by rw [q2]; rfl) (by rw [q3]; rfl) (by rw [q4]; rfl) H6.out J6.out
  · have q1 : hasD s = true := by rw [hasD_eq, e0, e1]; rfl
    have q2 : hasN s = true := by rw [hasN_eq, e2, e3, e4, e1]; rfl
    have q3 : hasM s = true := by rw [hasM_eq, e5, e6, e1]; rfl
    have q4 : hasA s = false := by rw [hasA_eq, e7]
    have HQ := Aside0.mk (And.intro q1 (And.intro q2 (And.intro q3 q4)))
    clear q1 q2 q3 q4
    have ci : W4.cell? ⟨W.heap.size, 1, none⟩ = some (.int .i64 a1) := (blk_cell H4.out.ci 1).trans rfl
    have cx : W4.cell? ⟨X, 1, none⟩ = some (.int .i64 a1) := (blk_cell J4.out 1).trans rfl
    have fx := blk_frozen J4.out 1
    go_upto_region 8 with ((with_reducible refine (swap_at b1 b2 a1 _ _ _ H4.out.ca H4.out.cb).mono ?_); rintro e w1_ ⟨rfl, rfl⟩)
    clear ci cx fx
    have H5 := Aside0.mk (H4.out.set HX.out 1 (.int .i64 (swp b1 b2 a1)))
    have J5 := Aside0.mk (blk_set J4.out 1 (.int .i64 (swp b1 b2 a1)))
    generalize W4.setCell ⟨X, 1, none⟩ (.int .i64 (swp b1 b2 a1)) = W5 at *
    have ci : W5.cell? ⟨W.heap.size, 2, none⟩ = some (.int .i64 a2) := (blk_cell H5.out.ci 2).trans rfl
    have cx : W5.cell? ⟨X, 2, none⟩ = some (.int .i64 a2) := (blk_cell J5.out 2).trans rfl
    have fx := blk_frozen J5.out 2
    go_upto_region 10 with ((with_reducible refine (swap_at b1 b2 a2 _ _ _ H5.out.ca H5.out.cb).mono ?_); rintro e w1_ ⟨rfl, rfl⟩)
    clear ci cx fx
    have H6 := Aside0.mk (H5.out.set HX.out 2 (.int .i64 (swp b1 b2 a2)))
    have J6 := Aside0.mk (blk_set J5.out 2 (.int .i64 (swp b1 b2 a2)))
    generalize W5.setCell ⟨X, 2, none⟩ (.int .i64 (swp b1 b2 a2)) = W6 at *
    have ci : W6.cell? ⟨W.heap.size, 3, none⟩ = some (.int .i64 a3) := (blk_cell H6.out.ci 3).trans rfl
    have cx : W6.cell? ⟨X, 3, none⟩ = some (.int .i64 a3) := (blk_cell J6.out 3).trans rfl
    have fx := blk_frozen J6.out 3
    go_upto_region 12 with ((with_reducible refine (swap_at b1 b2 a3 _ _ _ H6.out.ca H6.out.cb).mono ?_); rintro e w1_ ⟨rfl, rfl⟩)
    clear ci cx fx
    have H7 := Aside0.mk (H6.out.set HX.out 3 (.int .i64 (swp b1 b2 a3)))
    have J7 := Aside0.mk (blk_set J6.out 3 (.int .i64 (swp b1 b2 a3)))
    generalize W6.setCell ⟨X, 3, none⟩ (.int .i64 (swp b1 b2 a3)) = W7 at *
    go_upto_region 14 with fail
    obtain ⟨q1, q2, q3, q4⟩ := HQ.out
    refine HTL.out _ (swp b1 b2 a1) (swp b1 b2 a2) (swp b1 b2 a3) a4 W7 _ _ _ _ _ _ _ _ _ _ _ _ _ _ _ _ _ _ _ _ _ _ _ _ _ _ _ _ _ _ _ _ _ _ _ _ _ _ _ _ _ _ _ _ _ _ _ _ _ _ _ _ _ _ _ _ _ _ _ _ _ _ _ _ _ _ _ _ _ _ _ _ _ _ _ _ _ _ _ _ _ _ _ _ _ _ _ _ _ _ _ _ _ _ _ _ _ _ _ _ _ _ _ _ _ _ _ _ _ _ _ _ _ _ _ _ _ _ _ _ _ _ _ _ _ _ _ _ _ _ _ _ _ _ _ _ _ _ _ _ _ _ _ _ _ _ _ _ _ _ _ _ _ _ _ _ (fun a w h => ‹∀ (a : Act) (w : World), Code.wp _ _ _ a w → _› a w h) (by rw [q1]; rfl) (by rw [q2]; rfl) (by rw [q3]; rfl) (by rw [q4]; rfl) H7.out J7.out
/-- What the tail needs of the plain law. -/
structure RenOk (a0 a1 a2 a3 a4 a5 a6 a7 a8 a9 b1 b2 j1 j2 j3 j4 : Int) (l m : List Int) (d e : Int) (x : Bool) : Prop where
  rl : inst_Reads.f 1000 a0 a1 a2 a3 a4 a5 a6 a7 a8 a9 = some l
  rm : inst_Reads.f 1000 a0 j1 j2 j3 j4 a5 a6 a7 a8 a9 = some m
  mem : ∀ v, v ∈ l → swp b1 b2 v ∈ m
  len : l.length = m.length
  few : m.length ≤ 5
  w1 : inst_Writes.f 1000 a0 a1 a2 a3 a4 a5 a6 a7 a8 a9 = some (d, x)
  w2 : inst_Writes.f 1000 a0 j1 j2 j3 j4 a5 a6 a7 a8 a9 = some (e, x)
  wr : x = true → swp b1 b2 d = e
  is : inst_Is.f 1000 a0 j1 j2 j3 j4 a5 a6 a7 a8 a9 = some true
theorem ren_ok (a0 a1 a2 a3 a4 a5 a6 a7 a8 a9 b1 b2 : Int) (mk : Bool) (hok : okB a0 a1 a2 a3 a4 a5 a6 a7 a8 a9 mk = true) (hmk : ∀ d n m x, inst_Is.f 1000 a0 d n m x a5 a6 a7 a8 a9 = some (okB a0 d n m x a5 a6 a7 a8 a9 mk)) (hc : (0 ≤ b1 ∧ b1 ≤ 30) ∧ (0 ≤ b2 ∧ b2 ≤ 30) ∧ a0 ≠ 37 ∧ a0 ≠ 30 ∧ a0 ≠ 35)
    (j1 j2 j3 j4 : Int) (e1 : j1 = swF (hasD (shapeN a0)) b1 b2 a1) (e2 : j2 = swF (hasN (shapeN a0)) b1 b2 a2) (e3 : j3 = swF (hasM (shapeN a0)) b1 b2 a3) (e4 : j4 = swF (hasA (shapeN a0)) b1 b2 a4) :
    RenOk a0 a1 a2 a3 a4 a5 a6 a7 a8 a9 b1 b2 j1 j2 j3 j4 (refR a0 a1 a2 a3 a4) (refR a0 j1 j2 j3 j4) (wrV true a0 a1).1 (wrV true a0 j1).1 (wrV true a0 a1).2 := by
  obtain ⟨hb1, hb2, h37, h30, h35⟩ := hc
  have h0 := ok_shape hok
  have hj := ok_swap hb1 hb2 hok
  unfold swOk at hj
  rw [← e1, ← e2, ← e3, ← e4] at hj
  have hi := hmk a1 a2 a3 a4
  have hi2 := hmk j1 j2 j3 j4
  rw [hok] at hi
  rw [hj] at hi2
  have hsw : swR b1 b2 a0 a1 a2 a3 a4 = refR a0 j1 j2 j3 j4 := by unfold swR; rw [← e1, ← e2, ← e3, ← e4]
  have hw := wr_swap (op := a0) (d := a1) hb1 hb2 h0 h30 h35
  rw [← e1] at hw
  refine ⟨?_, ?_, ?_, ?_, refR_len _ _ _ _ _, ?_, ?_, hw.2, hi2⟩
  · rw [reads_at 1000 (by omega) _ _ _ _ _ _ _ _ _ _ _ hi, rdV_eq, if_pos rfl]
  · rw [reads_at 1000 (by omega) _ _ _ _ _ _ _ _ _ _ _ hi2, rdV_eq, if_pos rfl]
  · intro v hv; rw [← hsw]; exact read_swap hb1 hb2 h0 h37 v hv
  · rw [← hsw]; exact len_swap hb1 hb2 h0 h37
  · rw [writes_at 1000 (by omega) _ _ _ _ _ _ _ _ _ _ _ hi]
  · rw [writes_at 1000 (by omega) _ _ _ _ _ _ _ _ _ _ _ hi2, ← hw.1]
set_option maxHeartbeats 4000000 in
set_option maxRecDepth 100000 in
theorem ren_tail (a0 a1 a2 a3 a4 a5 a6 a7 a8 a9 b1 b2 s : Int) (W : World) (X : Nat) (mk : Bool)
    (hok : okB a0 a1 a2 a3 a4 a5 a6 a7 a8 a9 mk = true) (hsn : s = ((shapeN a0 : Nat) : Int)) (hmk : ∀ d n m x, inst_Is.f 1000 a0 d n m x a5 a6 a7 a8 a9 = some (okB a0 d n m x a5 a6 a7 a8 a9 mk)) (hc : (0 ≤ b1 ∧ b1 ≤ 30) ∧ (0 ≤ b2 ∧ b2 ≤ 30) ∧ a0 ≠ 37 ∧ a0 ≠ 30 ∧ a0 ≠ 35) (htab : TabW W) :
    RenTail a0 a1 a2 a3 a4 a5 a6 a7 a8 a9 b1 b2 s W X := by
  intro K j1 j2 j3 j4 W4 u10 u11 u12 u13 u14 u15 u16 u17 u18 u19 u20 u21 u22 u23 u24 u25 u26 u27 u28 u29 u30 u31 u32 u33 u34 u35 u36 u37 u38 u39 u40 u41 u42 u43 u44 u45 u46 u47 u48 u49 u50 u51 u52 u53 u54 u55 u56 u57 u58 u59 u60 u61 u62 u63 u64 u65 u66 u67 u68 u69 u70 u71 u72 u73 u74 u75 u76 u77 u78 u79 u80 u81 u82 u83 u84 u85 u86 u87 u88 u89 u90 u91 u92 u93 u94 u95 u96 u97 u98 u99 u100 u101 u102 u103 u104 u105 u106 u107 u108 u109 u110 u111 u112 u113 u114 u115 u116 u117 u118 u119 u120 u121 u122 u123 u124 u125 u126 u127 u128 u129 u130 u131 u132 u133 u134 u135 u136 u137 u138 u139 u140 u141 u142 u143 u144 u145 u146 u147 u148 u149 u150 u151 u152 u153 u154 u155 u156 u157 u158 u159 u160 u161 u162 u163 u164 u165 hK e1 e2 e3 e4 h4 jx
  subst hsn
  have hR := ren_ok a0 a1 a2 a3 a4 a5 a6 a7 a8 a9 b1 b2 mk hok hmk hc j1 j2 j3 j4 e1 e2 e3 e4
  have HSH := Aside0.mk (shaped_at 1000 (by omega))
  have HTAB := Aside0.mk htab
  have H4 := Aside0.mk h4
  have J4 := Aside0.mk jx
  generalize ((shapeN a0 : Nat) : Int) = s at *
  generalize refR a0 a1 a2 a3 a4 = l at *
  generalize refR a0 j1 j2 j3 j4 = m at *
  generalize (wrV true a0 a1).1 = d at *
  generalize (wrV true a0 j1).1 = e at *
  generalize (wrV true a0 a1).2 = x at *
  have HR := Aside0.mk hR
  clear hok hmk hc e1 e2 e3 e4 h4 jx hR htab
  obtain ⟨c15, h15⟩ : ∃ c, c = ren15 := ⟨_, rfl⟩
  rw [← h15] at hK
  simp only [ren15, ren14, ren6, renB, sq, Tryd.f3, Option.getD_some] at h15
  subst h15
  obtain ⟨c14, h14⟩ : ∃ c, c = ren14r := ⟨_, rfl⟩
  rw [← h14]
  simp only [ren14r, ren14, ren6, renB, sq, fs, Tryd.f3, Option.getD_some] at h14
  subst h14
  dsimp only
  obtain ⟨c0, c1, c2, c3, c4, c5, c6, c7, c8, c9⟩ := cells10_ H4.out.ci
  go_wp2_with fail
  clear c0 c1 c2 c3 c4 c5 c6 c7 c8 c9
  refine (inst_Reads.calls 1000 _ _ _ _ _ _ _ _ _ _ _ _ HR.out.rl (HTAB.out.below H4.out.below)).mono ?_
  rintro e_ W5 ⟨v0, rfl, hr, hb⟩
  obtain ⟨A, cA, rfl, hcA, hCA⟩ := Kd.R_reads hr
  have H5 := Aside0.mk (H4.out.step hb)
  have J5 := Aside0.mk (blk_below J4.out hb)
  have CA5 := Aside0.mk hCA
  have LA := Aside0.mk hcA
  clear hr hb hCA hcA H4 J4
  obtain ⟨c0, c1, c2, c3, c4, c5, c6, c7, c8, c9⟩ := cells10_ J5.out
  go_wp2_with fail
  clear c0 c1 c2 c3 c4 c5 c6 c7 c8 c9
  refine (inst_Reads.calls 1000 _ _ _ _ _ _ _ _ _ _ _ _ HR.out.rm (HTAB.out.below H5.out.below)).mono ?_
  rintro e_ W6 ⟨v0, rfl, hr, hb⟩
  obtain ⟨B, cB, rfl, hcB, hCB⟩ := Kd.R_reads hr
  have H6 := Aside0.mk (H5.out.step hb)
  have J6 := Aside0.mk (blk_below J5.out hb)
  have CA6 := Aside0.mk (Kd.C_below CA5.out hb)
  have CB6 := Aside0.mk hCB
  have LB := Aside0.mk hcB
  clear hr hb hCB hcB H5 J5 CA5
  go_wp2_with fail
  go_loopg [12] l.length (fun kq v12 wr => ∃ k : Nat, v12 = .int .i64 (k : Int) ∧ k + kq = l.length ∧ Aside0 (RS W #[.int .i64 a0, .int .i64 a1, .int .i64 a2, .int .i64 a3, .int .i64 a4, .int .i64 a5, .int .u64 a6, .int .i64 a7, .int .i64 a8, .int .i64 a9] b1 b2 wr) ∧ Aside0 (wr.heap[X]? = some (.cells #[.int .i64 a0, .int .i64 j1, .int .i64 j2, .int .i64 j3, .int .i64 j4, .int .i64 a5, .int .u64 a6, .int .i64 a7, .int .i64 a8, .int .i64 a9] 24 (0, 0))) ∧ Aside0 (Kd.C (Kd.int .i64) wr A l.length l) ∧ Aside0 (Kd.C (Kd.int .i64) wr B m.length m))
  case atStart => exact ⟨0, rfl, by omega, ⟨H6.out⟩, ⟨J6.out⟩, ⟨CA6.out⟩, ⟨CB6.out⟩⟩
  case round =>
    clear H6 J6 CA6 CB6
    obtain ⟨k, rfl, hik, H6, J6, CA, CB⟩ := hrel
    cases gk with
    | zero =>
      obtain rfl : k = l.length := by omega
      clear hik
      have hlen : ((l.length : Nat) : Int) = ((m.length : Nat) : Int) := by rw [HR.out.len]
      obtain ⟨c0, c1, c2, c3, c4, c5, c6, c7, c8, c9⟩ := cells10_ H6.out.ci
      have d1 : ¬ l.length < l.length := Nat.lt_irrefl _
      have hl1 : (l.length == m.length) = true := by rw [HR.out.len]; simp
      have hl2 : ((l.length : Int) == (m.length : Int)) = true := by rw [HR.out.len]; simp
      go_wp2_with fail
      clear c0 c1 c2 c3 c4 c5 c6 c7 c8 c9
      refine (inst_Writes.calls 1000 _ _ _ _ _ _ _ _ _ _ _ _ _ HR.out.w1 (HTAB.out.below H6.out.below)).mono ?_
      rintro e_ W7 ⟨rfl, hb⟩
      have H7 := Aside0.mk (H6.out.step hb)
      have J7 := Aside0.mk (blk_below J6.out hb)
      clear hb H6 J6
      obtain ⟨c0, c1, c2, c3, c4, c5, c6, c7, c8, c9⟩ := cells10_ J7.out
      go_wp2_with fail
      clear c0 c1 c2 c3 c4 c5 c6 c7 c8 c9
      refine (inst_Writes.calls 1000 _ _ _ _ _ _ _ _ _ _ _ _ _ HR.out.w2 (HTAB.out.below H7.out.below)).mono ?_
      rintro e_ W8 ⟨rfl, hb⟩
      have H8 := Aside0.mk (H7.out.step hb)
      have J8 := Aside0.mk (blk_below J7.out hb)
      clear hb H7 J7
      go_wp2_with fail
      refine (cleatlaw04_shaped.calls 1000 _ _ HSH.out (HTAB.out.below H8.out.below)).mono ?_
      rintro e_ W9 ⟨rfl, hb⟩
      have H9 := Aside0.mk (H8.out.step hb)
      have J9 := Aside0.mk (blk_below J8.out hb)
      clear hb H8 J8
      obtain ⟨c0, c1, c2, c3, c4, c5, c6, c7, c8, c9⟩ := cells10_ J9.out
      go_wp2_with fail
      clear c0 c1 c2 c3 c4 c5 c6 c7 c8 c9
      refine (inst_Is.calls 1000 _ _ _ _ _ _ _ _ _ _ _ _ HR.out.is (HTAB.out.below H9.out.below)).mono ?_
      rintro e_ W10 ⟨rfl, hb⟩
      have H10 := Aside0.mk (H9.out.step hb)
      clear hb H9 J9
      cases x with
      | false =>
        go_wp2
        go_ret
        exact ⟨rfl, H10.out.below⟩
      | true =>
        have hsw := HR.out.wr rfl
        have HS2 := Aside0.mk (show ∀ w, w.heap[W.heap.size + 1]? = some (.cells #[.int .i64 b1] 3 (0, 0)) → w.heap[W.heap.size + 1 + 1]? = some (.cells #[.int .i64 b2] 3 (0, 0)) → Calls Tryd.prog 7 #[.int .i64 d, .pointer (some ⟨W.heap.size + 1, 0, none⟩), .pointer (some ⟨W.heap.size + 1 + 1, 0, none⟩)] w fun e_ W' => e_ = .returned (.int .i64 e) ∧ w = W' from fun w ha hb => by have := swap_at b1 b2 d _ _ w ha hb; rwa [hsw] at this)
        clear hsw
        go_wp2_with ((with_reducible refine (HS2.out _ H10.out.ca H10.out.cb).mono ?_); rintro e_ w1_ ⟨rfl, rfl⟩)
        go_wp2
        go_ret
        exact ⟨rfl, H10.out.below⟩
    | succ kq =>
      have hk : k < l.length := by omega
      obtain ⟨ad, hA, hcell⟩ := Kd.at_int CA.out (k : Int) (by omega) (by omega)
      subst hA
      have hmem : rd l (k : Int) ∈ l := by rw [rd_ren l k hk]; exact List.getElem_mem _
      have HS := Aside0.mk (fun w ha hb => swap_at b1 b2 (rd l (k : Int)) (W.heap.size + 1) (W.heap.size + 1 + 1) w ha hb)
      have HH := Aside0.mk (fun w (hw : Kd.C (Kd.int .i64) w B m.length m) => cleatlaw04_has.calls 1000 B cB m (swp b1 b2 (rd l (k : Int))) true w hw LB.out (has_mem 1000 m _ (by have := HR.out.few; omega) (by have := HR.out.few; omega) (HR.out.mem _ hmem)))
      generalize rd l (k : Int) = v at *
      generalize swp b1 b2 v = sv at *
      clear hmem
      rw [Int.toNat_natCast] at hcell
      have eb : wrap64 ((k : Int) + 1) = ((k + 1 : Nat) : Int) := by have := HR.out.few; have := HR.out.len; unfold wrap64; omega
      have hik2 := Aside0.mk (show k + 1 + kq = l.length by omega)
      have hk2 : (k : Int) < (l.length : Int) := by omega
      have hk0 : (0 : Int) ≤ (k : Int) := by omega
      clear hik
      go_wp2_with fail
      refine (HS.out _ H6.out.ca H6.out.cb).mono ?_
      rintro e_ w1_ ⟨rfl, rfl⟩
      go_wp2_with fail
      refine (HH.out _ CB.out).mono ?_
      rintro e_ w2_ ⟨rfl, hd⟩
      have hb : Below wr.heap.size wr w2_ := by obtain ⟨n_, rfl⟩ := hd; exact pw_below_drewN (Below.refl _ _) _
      have H7 := Aside0.mk (H6.out.step hb)
      have J7 := Aside0.mk (blk_below J6.out hb)
      have CA7 := Aside0.mk (Kd.C_below CA.out hb)
      have CB7 := Aside0.mk (Kd.C_below CB.out hb)
      clear hb hd hcell
      go_wp2
      go_roundg kq
      case measure => omega
      case rel => exact ⟨k + 1, by rw [eb], hik2.out, ⟨H7.out⟩, ⟨J7.out⟩, ⟨CA7.out⟩, ⟨CB7.out⟩⟩
set_option maxHeartbeats 4000000 in
set_option maxRecDepth 100000 in
theorem InstRenamed_walk (a0 a1 a2 a3 a4 a5 a6 a7 a8 a9 : Int) (b1 b2 : Int) (W : World) (w0 : (Lit.int .i64 a0).wf = true) (w1 : (Lit.int .i64 a1).wf = true) (w2 : (Lit.int .i64 a2).wf = true) (w3 : (Lit.int .i64 a3).wf = true) (w4 : (Lit.int .i64 a4).wf = true) (w5 : (Lit.int .i64 a5).wf = true) (w6 : (Lit.int .u64 a6).wf = true) (w7 : (Lit.int .i64 a7).wf = true) (w8 : (Lit.int .i64 a8).wf = true) (w9 : (Lit.int .i64 a9).wf = true) (w10 : (Lit.int .i64 b1).wf = true) (w11 : (Lit.int .i64 b2).wf = true) (hTab : TabW W) :
    Calls Tryd.prog 3 #[.agg #[.int .i64 a0, .int .i64 a1, .int .i64 a2, .int .i64 a3, .int .i64 a4, .int .i64 a5, .int .u64 a6, .int .i64 a7, .int .i64 a8, .int .i64 a9], .int .i64 b1, .int .i64 b2] W fun e w' => e = .returned (.bool true) ∧ Below W.heap.size W w' := by
  have hwm : 0 ≤ a6 ∧ a6 < 18446744073709551616 := by simp [Lit.wf, IntKind.min, IntKind.max, IntKind.bits, IntKind.signed] at w6; omega
  obtain ⟨mk, hmk⟩ := is_ends a6 hwm.1 hwm.2
  have HIS := Aside0.mk (fun d n m x => is_at 998 a0 d n m x a5 a6 a7 a8 a9 mk (hmk 998 (by omega)))
  have HSH := Aside0.mk (shaped_at 1000 (by omega))
  have HTAB := Aside0.mk hTab
  clear w0 w1 w2 w3 w4 w5 w6 w7 w8 w9 w10 w11 hwm hmk hTab
  obtain ⟨W1, hW1, hA, hB, hC, hbel⟩ := three_new W (.cells #[.int .i64 a0, .int .i64 a1, .int .i64 a2, .int .i64 a3, .int .i64 a4, .int .i64 a5, .int .u64 a6, .int .i64 a7, .int .i64 a8, .int .i64 a9] 24) (.cells #[.int .i64 b1] 3) (.cells #[.int .i64 b2] 3)
  have H1 := Aside0.mk (RS.mk (w := W) hA hB hC hbel)
  have HW1 := Aside0.mk hW1
  clear hA hB hC hbel hW1
  go_enter Tryd.func3, Tryd.ntmps3
  go_upto_region 1 with fail
  change Code.wp _ _ _ _ (((W.alloc (.cells #[.int .i64 a0, .int .i64 a1, .int .i64 a2, .int .i64 a3, .int .i64 a4, .int .i64 a5, .int .u64 a6, .int .i64 a7, .int .i64 a8, .int .i64 a9] 24)).alloc (.cells #[.int .i64 b1] 3)).alloc (.cells #[.int .i64 b2] 3))
  rw [← HW1.out]
  clear HW1
  obtain ⟨c0, c1, c2, c3, c4, c5, c6, c7, c8, c9⟩ := cells10_ H1.out.ci
  go_wp2_with fail
  clear c0 c1 c2 c3 c4 c5 c6 c7 c8 c9
  refine (inst_Shape.calls a0 _ _ (shape_at a0)).mono ?_
  rintro e W2 ⟨rfl, hb⟩
  have H2 := Aside0.mk (H1.out.step hb)
  clear hb H1
  obtain ⟨c0, c1, c2, c3, c4, c5, c6, c7, c8, c9⟩ := cells10_ H2.out.ci
  have hs16 := shapeN_le a0
  have HOK := Aside0.mk (fun h => ok_shape (op := a0) (d := a1) (n := a2) (m := a3) (x := a4) (imm := a5) (mask := a6) (shift := a7) (amount := a8) (cond := a9) (mk := mk) h)
  go_wp2_with fail
  clear c0 c1 c2 c3 c4 c5 c6 c7 c8 c9
  refine (inst_Is.calls 1000 _ _ _ _ _ _ _ _ _ _ _ _ (HIS.out a1 a2 a3 a4) (HTAB.out.below H2.out.below)).mono ?_
  rintro e W3 ⟨rfl, hb⟩
  have H3 := Aside0.mk (H2.out.step hb)
  clear hb H2
  generalize hok : okB a0 a1 a2 a3 a4 a5 a6 a7 a8 a9 mk = ok at *
  have HOKE := Aside0.mk hok
  clear hok
  obtain ⟨c0, c1, c2, c3, c4, c5, c6, c7, c8, c9⟩ := cells10_ H3.out.ci
  have ca : W3.cell? ⟨W.heap.size + 1, 0, none⟩ = some (.int .i64 b1) := (blk_cell H3.out.ca 0).trans rfl
  have cb : W3.cell? ⟨W.heap.size + 1 + 1, 0, none⟩ = some (.int .i64 b2) := (blk_cell H3.out.cb 0).trans rfl
  rcases cond_chain ok b1 b2 a0 with rfl | ⟨rfl, d1⟩ | ⟨rfl, d1, d2⟩ | ⟨rfl, d1, d2, d3⟩ | ⟨rfl, d1, d2, d3, d4⟩ | ⟨rfl, d1, d2, d3, d4, d5⟩ | ⟨rfl, d1, d2, d3, d4, d5, d6⟩ | ⟨rfl, d1, d2, d3, d4, d5, d6, d7⟩ | ⟨rfl, d1, d2, d3, d4, d5, d6, d7⟩
  rotate_right
  ·
    go_upto_region 5 with fail
    go_cut [9] (fun s_ wx => s_ = .pointer (some ⟨W3.heap.size, 0, none⟩) ∧ wx = W3.alloc (.cells #[.int .i64 a0, .int .i64 a1, .int .i64 a2, .int .i64 a3, .int .i64 a4, .int .i64 a5, .int .u64 a6, .int .i64 a7, .int .i64 a8, .int .i64 a9] 24))
    case first =>
      go_wp2_with fail
      go_meet
      exact ⟨rfl, rfl⟩
    case rest =>
      obtain ⟨rfl, hw_⟩ := hcut
      rw [hw_]
      have hcc : (0 ≤ b1 ∧ b1 ≤ 30) ∧ (0 ≤ b2 ∧ b2 ≤ 30) ∧ a0 ≠ 37 ∧ a0 ≠ 30 ∧ a0 ≠ 35 := by
        simp only [decide_eq_false_iff_not, beq_eq_false_iff_ne] at d1 d2 d3 d4 d5 d6 d7
        omega
      have hs0 := ok_shape HOKE.out
      have hX : W.heap.size + 1 + 1 < W3.heap.size := blk_lt H3.out.cb
      refine ‹∀ (a : Act) (w : World), Code.wp _ ren6 _ a w → _› _ _ ?_
      refine ren_ifs a0 a1 a2 a3 a4 a5 a6 a7 a8 a9 b1 b2 _ W _ W3.heap.size _ _ _ _ _ _ _ _ _ _ _ _ _ _ _ _ _ _ _ _ _ _ _ _ _ _ _ _ _ _ _ _ _ _ _ _ _ _ _ _ _ _ _ _ _ _ _ _ _ _ _ _ _ _ _ _ _ _ _ _ _ _ _ _ _ _ _ _ _ _ _ _ _ _ _ _ _ _ _ _ _ _ _ _ _ _ _ _ _ _ _ _ _ _ _ _ _ _ _ _ _ _ _ _ _ _ _ _ _ _ _ _ _ _ _ _ _ _ _ _ _ _ _ _ _ _ _ _ _ _ _ _ _ _ _ _ _ _ _ _ _ _ _ _ _ _ _ _ _ _ _ _ _ _ _ _ hX (H3.out.step (below_alloc (Below.refl _ _) _)) (blk_new W3 _) (by omega) (ren_tail a0 a1 a2 a3 a4 a5 a6 a7 a8 a9 b1 b2 _ W _ mk HOKE.out rfl HIS.out hcc HTAB.out)
  all_goals
    go_wp2_with fail
    refine (cleatlaw04_shaped.calls 1000 _ _ HSH.out (HTAB.out.below H3.out.below)).mono ?_
    rintro e W4 ⟨rfl, hb⟩
    have HB := Aside0.mk (H3.out.step hb).below
    go_wp2
    go_ret
    exact ⟨rfl, HB.out⟩
end Go.Proofs.YtblnfngigdipcaaDoor.Pure
