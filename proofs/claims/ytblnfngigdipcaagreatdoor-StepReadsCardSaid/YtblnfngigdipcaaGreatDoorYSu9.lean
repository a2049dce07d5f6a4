/- Written for this claim by a program of this session: what the claim uses of lemmas and proved contracts of Go functions. -/
import Derived.Test.YtblnfngigdipcaaGreatDoorYSu8
import Derived.Defers
import Derived.Recover
namespace Go.Proofs.YtblnfngigdipcaaGreatDoor.P
open Go.RowKit Go.Proofs.YtblnfngigdipcaaGreatDoorW.PrintWords Go.Proofs.YtblnfngigdipcaaGreatDoorW.PrintLast Go.Proofs.YtblnfngigdipcaaGreatDoorW.PrintMore
attribute [local go_sem] max2_int min2_int max_two min_two max_three min_three max_four min_four
set_option linter.unusedVariables false
set_option linter.unusedSimpArgs false
structure CI where
  o : Int
  d : Int
  n : Int
  m : Int
  a : Int
  im : Int
  ms : Int
  sh : Int
  am : Int
  cd : Int
def CI.v (c : CI) : Array Value := #[.int .i64 c.o, .int .i64 c.d, .int .i64 c.n, .int .i64 c.m, .int .i64 c.a, .int .i64 c.im, .int .u64 c.ms, .int .i64 c.sh, .int .i64 c.am, .int .i64 c.cd]
def CIAt (w : World) (I : Nat) (c : CI) : Prop := w.heap[I]? = some (.cells c.v 51 (0, 0))
structure T3 where
  t0 : Int
  t1 : Int
  t2 : Int
def PD.put (k : Nat) (p : PD) (c : CI) (t : T3) (v : Int) : Option (Int × CI × T3) :=
  match p with
  | .d => some (0, { c with d := v }, t) | .n => some (0, { c with n := v }, t) | .m => some (0, { c with m := v }, t) | .a => some (0, { c with a := v }, t)
  | .sh => some (0, { c with sh := v }, t) | .cond _ => some (0, { c with cd := v }, t) | .lo => some (0, { c with im := v }, t)
  | .hi => some (0, { c with im := Go.bits .or .i64 c.im (wrap64 (v * 4)) }, t)
  | .imm _ _ b _ => some (0, { c with im := wrap64 (b * v) }, t)
  | .amt _ _ b => some (0, { c with am := wrap64 (b * v) }, t)
  | .mk 0 => some (0, c, { t with t0 := v })
  | .mk 1 => some (0, c, { t with t1 := v })
  | .mk 2 => (mask_Decode.f k t.t0 t.t1 v).bind fun r => if r.2 = 0 then some (0, { c with ms := r.1 }, { t with t2 := v }) else some (r.2, c, { t with t2 := v })
  | .mk _ => none
structure PutTo (W W' : World) (I T : Nat) : Prop where
  block : ∀ b, b < W.heap.size → b ≠ I → b ≠ T → W'.heap[b]? = W.heap[b]?
  size : W.heap.size ≤ W'.heap.size
  below : ∀ w : World, Below w.heap.size w W → w.heap.size ≤ I → w.heap.size ≤ T → Below w.heap.size w W'
theorem PutTo.refl (W : World) (I T : Nat) : PutTo W W I T := ⟨fun _ _ _ _ => rfl, Nat.le_refl _, fun _ h _ _ => h⟩
theorem PutTo.set {W W' : World} {I T : Nat} (h : PutTo W W' I T) {g j : Nat} (hg : g = I ∨ g = T) (v : Value) : PutTo W (W'.setCell ⟨g, j, none⟩ v) I T where
  block b hb h1 h2 := (Below.heap_setCell W' ⟨g, j, none⟩ v b (by rcases hg with rfl | rfl <;> assumption)).trans (h.block b hb h1 h2)
  size := by have := h.size; simpa [World.setCell] using this
  below w hb hI hT := (h.below w hb hI hT).setCell (by rcases hg with rfl | rfl <;> assumption) _
theorem PutTo.step {W W1 W2 : World} {I T : Nat} (h : PutTo W W1 I T) (hb : Below W1.heap.size W1 W2) : PutTo W W2 I T where
  block b hl h1 h2 := (hb.block b (Nat.lt_of_lt_of_le hl h.size)).trans (h.block b hl h1 h2)
  size := Nat.le_trans h.size hb.size
  below w hw hI hT := below_step (h.below w hw hI hT) hb
theorem put_d (I T : Nat) (i0 i1 i2 i3 i4 i5 i6 i7 i8 i9 : Int) (v : Int) (W : World) (hI : W.heap[I]? = some (.cells #[.int .i64 i0, .int .i64 i1, .int .i64 i2, .int .i64 i3, .int .i64 i4, .int .i64 i5, .int .u64 i6, .int .i64 i7, .int .i64 i8, .int .i64 i9] 51 (0, 0))) : Calls Tryz.prog 222 #[.pointer (some ⟨I, 0, none⟩), .int .i64 v] W fun e W' => e = .returned (.tuple #[]) ∧ PutTo W W' I T ∧ W'.heap[I]? = some (.cells #[.int .i64 i0, .int .i64 v, .int .i64 i2, .int .i64 i3, .int .i64 i4, .int .i64 i5, .int .u64 i6, .int .i64 i7, .int .i64 i8, .int .i64 i9] 51 (0, 0)) ∧ (T ≠ I → T < W.heap.size → W'.heap[T]? = W.heap[T]?) := by
  obtain ⟨d0, d1, d2, d3, d4, d5, d6, d7, d8, d9⟩ := cells10_ hI
  have hf := fun j => blk_frozen hI j
  have HI := aq hI
  clear hI
  go_enter Tryz.func222, Tryz.ntmps222
  go_wp2
  go_end0
  exact ⟨rfl, (PutTo.refl W I T).set (.inl rfl) _, blk_set HI.out 1 _, fun hT _ => Below.heap_setCell W _ _ T hT⟩
theorem put_n (I T : Nat) (i0 i1 i2 i3 i4 i5 i6 i7 i8 i9 : Int) (v : Int) (W : World) (hI : W.heap[I]? = some (.cells #[.int .i64 i0, .int .i64 i1, .int .i64 i2, .int .i64 i3, .int .i64 i4, .int .i64 i5, .int .u64 i6, .int .i64 i7, .int .i64 i8, .int .i64 i9] 51 (0, 0))) : Calls Tryz.prog 228 #[.pointer (some ⟨I, 0, none⟩), .int .i64 v] W fun e W' => e = .returned (.tuple #[]) ∧ PutTo W W' I T ∧ W'.heap[I]? = some (.cells #[.int .i64 i0, .int .i64 i1, .int .i64 v, .int .i64 i3, .int .i64 i4, .int .i64 i5, .int .u64 i6, .int .i64 i7, .int .i64 i8, .int .i64 i9] 51 (0, 0)) ∧ (T ≠ I → T < W.heap.size → W'.heap[T]? = W.heap[T]?) := by
  obtain ⟨d0, d1, d2, d3, d4, d5, d6, d7, d8, d9⟩ := cells10_ hI
  have hf := fun j => blk_frozen hI j
  have HI := aq hI
  clear hI
  go_enter Tryz.func228, Tryz.ntmps228
  go_wp2
  go_end0
  exact ⟨rfl, (PutTo.refl W I T).set (.inl rfl) _, blk_set HI.out 2 _, fun hT _ => Below.heap_setCell W _ _ T hT⟩
theorem put_m (I T : Nat) (i0 i1 i2 i3 i4 i5 i6 i7 i8 i9 : Int) (v : Int) (W : World) (hI : W.heap[I]? = some (.cells #[.int .i64 i0, .int .i64 i1, .int .i64 i2, .int .i64 i3, .int .i64 i4, .int .i64 i5, .int .u64 i6, .int .i64 i7, .int .i64 i8, .int .i64 i9] 51 (0, 0))) : Calls Tryz.prog 236 #[.pointer (some ⟨I, 0, none⟩), .int .i64 v] W fun e W' => e = .returned (.tuple #[]) ∧ PutTo W W' I T ∧ W'.heap[I]? = some (.cells #[.int .i64 i0, .int .i64 i1, .int .i64 i2, .int .i64 v, .int .i64 i4, .int .i64 i5, .int .u64 i6, .int .i64 i7, .int .i64 i8, .int .i64 i9] 51 (0, 0)) ∧ (T ≠ I → T < W.heap.size → W'.heap[T]? = W.heap[T]?) := by
  obtain ⟨d0, d1, d2, d3, d4, d5, d6, d7, d8, d9⟩ := cells10_ hI
  have hf := fun j => blk_frozen hI j
  have HI := aq hI
  clear hI
  go_enter Tryz.func236, Tryz.ntmps236
  go_wp2
  go_end0
  exact ⟨rfl, (PutTo.refl W I T).set (.inl rfl) _, blk_set HI.out 3 _, fun hT _ => Below.heap_setCell W _ _ T hT⟩
theorem put_a (I T : Nat) (i0 i1 i2 i3 i4 i5 i6 i7 i8 i9 : Int) (v : Int) (W : World) (hI : W.heap[I]? = some (.cells #[.int .i64 i0, .int .i64 i1, .int .i64 i2, .int .i64 i3, .int .i64 i4, .int .i64 i5, .int .u64 i6, .int .i64 i7, .int .i64 i8, .int .i64 i9] 51 (0, 0))) : Calls Tryz.prog 240 #[.pointer (some ⟨I, 0, none⟩), .int .i64 v] W fun e W' => e = .returned (.tuple #[]) ∧ PutTo W W' I T ∧ W'.heap[I]? = some (.cells #[.int .i64 i0, .int .i64 i1, .int .i64 i2, .int .i64 i3, .int .i64 v, .int .i64 i5, .int .u64 i6, .int .i64 i7, .int .i64 i8, .int .i64 i9] 51 (0, 0)) ∧ (T ≠ I → T < W.heap.size → W'.heap[T]? = W.heap[T]?) := by
  obtain ⟨d0, d1, d2, d3, d4, d5, d6, d7, d8, d9⟩ := cells10_ hI
  have hf := fun j => blk_frozen hI j
  have HI := aq hI
  clear hI
  go_enter Tryz.func240, Tryz.ntmps240
  go_wp2
  go_end0
  exact ⟨rfl, (PutTo.refl W I T).set (.inl rfl) _, blk_set HI.out 4 _, fun hT _ => Below.heap_setCell W _ _ T hT⟩
theorem put_sh (I T : Nat) (i0 i1 i2 i3 i4 i5 i6 i7 i8 i9 : Int) (v : Int) (W : World) (hI : W.heap[I]? = some (.cells #[.int .i64 i0, .int .i64 i1, .int .i64 i2, .int .i64 i3, .int .i64 i4, .int .i64 i5, .int .u64 i6, .int .i64 i7, .int .i64 i8, .int .i64 i9] 51 (0, 0))) : Calls Tryz.prog 238 #[.pointer (some ⟨I, 0, none⟩), .int .i64 v] W fun e W' => e = .returned (.tuple #[]) ∧ PutTo W W' I T ∧ W'.heap[I]? = some (.cells #[.int .i64 i0, .int .i64 i1, .int .i64 i2, .int .i64 i3, .int .i64 i4, .int .i64 i5, .int .u64 i6, .int .i64 v, .int .i64 i8, .int .i64 i9] 51 (0, 0)) ∧ (T ≠ I → T < W.heap.size → W'.heap[T]? = W.heap[T]?) := by
  obtain ⟨d0, d1, d2, d3, d4, d5, d6, d7, d8, d9⟩ := cells10_ hI
  have hf := fun j => blk_frozen hI j
  have HI := aq hI
  clear hI
  go_enter Tryz.func238, Tryz.ntmps238
  go_wp2
  go_end0
  exact ⟨rfl, (PutTo.refl W I T).set (.inl rfl) _, blk_set HI.out 7 _, fun hT _ => Below.heap_setCell W _ _ T hT⟩
theorem put_cond (I T : Nat) (i0 i1 i2 i3 i4 i5 i6 i7 i8 i9 : Int) (v : Int) (W : World) (hI : W.heap[I]? = some (.cells #[.int .i64 i0, .int .i64 i1, .int .i64 i2, .int .i64 i3, .int .i64 i4, .int .i64 i5, .int .u64 i6, .int .i64 i7, .int .i64 i8, .int .i64 i9] 51 (0, 0))) : Calls Tryz.prog 246 #[.pointer (some ⟨I, 0, none⟩), .int .i64 v] W fun e W' => e = .returned (.tuple #[]) ∧ PutTo W W' I T ∧ W'.heap[I]? = some (.cells #[.int .i64 i0, .int .i64 i1, .int .i64 i2, .int .i64 i3, .int .i64 i4, .int .i64 i5, .int .u64 i6, .int .i64 i7, .int .i64 i8, .int .i64 v] 51 (0, 0)) ∧ (T ≠ I → T < W.heap.size → W'.heap[T]? = W.heap[T]?) := by
  obtain ⟨d0, d1, d2, d3, d4, d5, d6, d7, d8, d9⟩ := cells10_ hI
  have hf := fun j => blk_frozen hI j
  have HI := aq hI
  clear hI
  go_enter Tryz.func246, Tryz.ntmps246
  go_wp2
  go_end0
  exact ⟨rfl, (PutTo.refl W I T).set (.inl rfl) _, blk_set HI.out 9 _, fun hT _ => Below.heap_setCell W _ _ T hT⟩
theorem put_lo (I T : Nat) (i0 i1 i2 i3 i4 i5 i6 i7 i8 i9 : Int) (v : Int) (W : World) (hI : W.heap[I]? = some (.cells #[.int .i64 i0, .int .i64 i1, .int .i64 i2, .int .i64 i3, .int .i64 i4, .int .i64 i5, .int .u64 i6, .int .i64 i7, .int .i64 i8, .int .i64 i9] 51 (0, 0))) : Calls Tryz.prog 242 #[.pointer (some ⟨I, 0, none⟩), .int .i64 v] W fun e W' => e = .returned (.tuple #[]) ∧ PutTo W W' I T ∧ W'.heap[I]? = some (.cells #[.int .i64 i0, .int .i64 i1, .int .i64 i2, .int .i64 i3, .int .i64 i4, .int .i64 v, .int .u64 i6, .int .i64 i7, .int .i64 i8, .int .i64 i9] 51 (0, 0)) ∧ (T ≠ I → T < W.heap.size → W'.heap[T]? = W.heap[T]?) := by
  obtain ⟨d0, d1, d2, d3, d4, d5, d6, d7, d8, d9⟩ := cells10_ hI
  have hf := fun j => blk_frozen hI j
  have HI := aq hI
  clear hI
  go_enter Tryz.func242, Tryz.ntmps242
  go_wp2
  go_end0
  exact ⟨rfl, (PutTo.refl W I T).set (.inl rfl) _, blk_set HI.out 5 _, fun hT _ => Below.heap_setCell W _ _ T hT⟩
theorem put_hi (I T : Nat) (i0 i1 i2 i3 i4 i5 i6 i7 i8 i9 : Int) (v : Int) (W : World) (hI : W.heap[I]? = some (.cells #[.int .i64 i0, .int .i64 i1, .int .i64 i2, .int .i64 i3, .int .i64 i4, .int .i64 i5, .int .u64 i6, .int .i64 i7, .int .i64 i8, .int .i64 i9] 51 (0, 0))) : Calls Tryz.prog 244 #[.pointer (some ⟨I, 0, none⟩), .int .i64 v] W fun e W' => e = .returned (.tuple #[]) ∧ PutTo W W' I T ∧ W'.heap[I]? = some (.cells #[.int .i64 i0, .int .i64 i1, .int .i64 i2, .int .i64 i3, .int .i64 i4, .int .i64 (Go.bits .or .i64 i5 (wrap64 (v * 4))), .int .u64 i6, .int .i64 i7, .int .i64 i8, .int .i64 i9] 51 (0, 0)) ∧ (T ≠ I → T < W.heap.size → W'.heap[T]? = W.heap[T]?) := by
  obtain ⟨d0, d1, d2, d3, d4, d5, d6, d7, d8, d9⟩ := cells10_ hI
  have hf := fun j => blk_frozen hI j
  have HI := aq hI
  clear hI
  go_enter Tryz.func244, Tryz.ntmps244
  go_wp2
  go_end0
  exact ⟨rfl, (PutTo.refl W I T).set (.inl rfl) _, blk_set HI.out 5 _, fun hT _ => Below.heap_setCell W _ _ T hT⟩
theorem put_imm (I T B : Nat) (b : Int) (i0 i1 i2 i3 i4 i5 i6 i7 i8 i9 : Int) (v : Int) (W : World) (hI : W.heap[I]? = some (.cells #[.int .i64 i0, .int .i64 i1, .int .i64 i2, .int .i64 i3, .int .i64 i4, .int .i64 i5, .int .u64 i6, .int .i64 i7, .int .i64 i8, .int .i64 i9] 51 (0, 0))) (hc : W.cell? ⟨B, 0, none⟩ = some (.int .i64 b)) : Calls Tryz.prog 224 #[.pointer (some ⟨I, 0, none⟩), .int .i64 v, .pointer (some ⟨B, 0, none⟩)] W fun e W' => e = .returned (.tuple #[]) ∧ PutTo W W' I T ∧ W'.heap[I]? = some (.cells #[.int .i64 i0, .int .i64 i1, .int .i64 i2, .int .i64 i3, .int .i64 i4, .int .i64 (wrap64 (b * v)), .int .u64 i6, .int .i64 i7, .int .i64 i8, .int .i64 i9] 51 (0, 0)) ∧ (T ≠ I → T < W.heap.size → W'.heap[T]? = W.heap[T]?) := by
  obtain ⟨d0, d1, d2, d3, d4, d5, d6, d7, d8, d9⟩ := cells10_ hI
  have hf := fun j => blk_frozen hI j
  have HI := aq hI
  clear hI
  go_enter Tryz.func224, Tryz.ntmps224
  go_wp2
  go_end0
  exact ⟨rfl, (PutTo.refl W I T).set (.inl rfl) _, blk_set HI.out 5 _, fun hT _ => Below.heap_setCell W _ _ T hT⟩
theorem put_amt (I T B : Nat) (b : Int) (i0 i1 i2 i3 i4 i5 i6 i7 i8 i9 : Int) (v : Int) (W : World) (hI : W.heap[I]? = some (.cells #[.int .i64 i0, .int .i64 i1, .int .i64 i2, .int .i64 i3, .int .i64 i4, .int .i64 i5, .int .u64 i6, .int .i64 i7, .int .i64 i8, .int .i64 i9] 51 (0, 0))) (hc : W.cell? ⟨B, 0, none⟩ = some (.int .i64 b)) : Calls Tryz.prog 226 #[.pointer (some ⟨I, 0, none⟩), .int .i64 v, .pointer (some ⟨B, 0, none⟩)] W fun e W' => e = .returned (.tuple #[]) ∧ PutTo W W' I T ∧ W'.heap[I]? = some (.cells #[.int .i64 i0, .int .i64 i1, .int .i64 i2, .int .i64 i3, .int .i64 i4, .int .i64 i5, .int .u64 i6, .int .i64 i7, .int .i64 (wrap64 (b * v)), .int .i64 i9] 51 (0, 0)) ∧ (T ≠ I → T < W.heap.size → W'.heap[T]? = W.heap[T]?) := by
  obtain ⟨d0, d1, d2, d3, d4, d5, d6, d7, d8, d9⟩ := cells10_ hI
  have hf := fun j => blk_frozen hI j
  have HI := aq hI
  clear hI
  go_enter Tryz.func226, Tryz.ntmps226
  go_wp2
  go_end0
  exact ⟨rfl, (PutTo.refl W I T).set (.inl rfl) _, blk_set HI.out 8 _, fun hT _ => Below.heap_setCell W _ _ T hT⟩
theorem put_mk0 (I T B : Nat) (i0 i1 i2 i3 i4 i5 i6 i7 i8 i9 : Int) (t0 t1 t2 v : Int) (W : World) (hI : W.heap[I]? = some (.cells #[.int .i64 i0, .int .i64 i1, .int .i64 i2, .int .i64 i3, .int .i64 i4, .int .i64 i5, .int .u64 i6, .int .i64 i7, .int .i64 i8, .int .i64 i9] 51 (0, 0))) (hne : I ≠ T) (hBT : B ≠ T) (hT : ToldIs W T t0 t1 t2) (hc : W.cell? ⟨B, 0, none⟩ = some (.int .i64 0)) : Calls Tryz.prog 233 #[.pointer (some ⟨I, 0, none⟩), .int .i64 v, .pointer (some ⟨T, 0, none⟩), .pointer (some ⟨B, 0, none⟩)] W fun e W' => e = .returned (.tuple #[]) ∧ PutTo W W' I T ∧ W'.heap[I]? = some (.cells #[.int .i64 i0, .int .i64 i1, .int .i64 i2, .int .i64 i3, .int .i64 i4, .int .i64 i5, .int .u64 i6, .int .i64 i7, .int .i64 i8, .int .i64 i9] 51 (0, 0)) ∧ ToldIs W' T v t1 t2 := by
  obtain ⟨e0, e1, e2⟩ := cells3_ hT
  have hf := fun j => blk_frozen hT j
  have HI := aq hI
  have HT := aq hT
  have hs0 : (W.setCell ⟨T, 0, none⟩ (.int .i64 v)).cell? ⟨B, 0, none⟩ = some (.int .i64 0) := (World.cell?_of_block (w := W) (Below.heap_setCell W ⟨T, 0, none⟩ _ B hBT)).trans hc
  clear hI hT
  go_enter Tryz.func233, Tryz.ntmps233
  go_wp2
  go_end0
  exact ⟨rfl, (PutTo.refl W I T).set (.inr rfl) _, (Below.heap_setCell W _ _ I hne).trans HI.out, blk_set HT.out 0 _⟩
theorem put_mk1 (I T B : Nat) (i0 i1 i2 i3 i4 i5 i6 i7 i8 i9 : Int) (t0 t1 t2 v : Int) (W : World) (hI : W.heap[I]? = some (.cells #[.int .i64 i0, .int .i64 i1, .int .i64 i2, .int .i64 i3, .int .i64 i4, .int .i64 i5, .int .u64 i6, .int .i64 i7, .int .i64 i8, .int .i64 i9] 51 (0, 0))) (hne : I ≠ T) (hBT : B ≠ T) (hT : ToldIs W T t0 t1 t2) (hc : W.cell? ⟨B, 0, none⟩ = some (.int .i64 1)) : Calls Tryz.prog 233 #[.pointer (some ⟨I, 0, none⟩), .int .i64 v, .pointer (some ⟨T, 0, none⟩), .pointer (some ⟨B, 0, none⟩)] W fun e W' => e = .returned (.tuple #[]) ∧ PutTo W W' I T ∧ W'.heap[I]? = some (.cells #[.int .i64 i0, .int .i64 i1, .int .i64 i2, .int .i64 i3, .int .i64 i4, .int .i64 i5, .int .u64 i6, .int .i64 i7, .int .i64 i8, .int .i64 i9] 51 (0, 0)) ∧ ToldIs W' T t0 v t2 := by
  obtain ⟨e0, e1, e2⟩ := cells3_ hT
  have hf := fun j => blk_frozen hT j
  have HI := aq hI
  have HT := aq hT
  have hs0 : (W.setCell ⟨T, 1, none⟩ (.int .i64 v)).cell? ⟨B, 0, none⟩ = some (.int .i64 1) := (World.cell?_of_block (w := W) (Below.heap_setCell W ⟨T, 1, none⟩ _ B hBT)).trans hc
  clear hI hT
  go_enter Tryz.func233, Tryz.ntmps233
  go_wp2
  go_end0
  exact ⟨rfl, (PutTo.refl W I T).set (.inr rfl) _, (Below.heap_setCell W _ _ I hne).trans HI.out, blk_set HT.out 1 _⟩
set_option maxHeartbeats 4000000 in
theorem put_mk2 (I T B k : Nat) (i0 i1 i2 i3 i4 i5 i6 i7 i8 i9 : Int) (t0 t1 t2 v m : Int) (W : World) (hI : W.heap[I]? = some (.cells #[.int .i64 i0, .int .i64 i1, .int .i64 i2, .int .i64 i3, .int .i64 i4, .int .i64 i5, .int .u64 i6, .int .i64 i7, .int .i64 i8, .int .i64 i9] 51 (0, 0))) (hne : I ≠ T) (hBT : B ≠ T) (hT : ToldIs W T t0 t1 t2) (hc : W.cell? ⟨B, 0, none⟩ = some (.int .i64 2)) (hd : mask_Decode.f k t0 t1 v = some (m, 0)) : Calls Tryz.prog 233 #[.pointer (some ⟨I, 0, none⟩), .int .i64 v, .pointer (some ⟨T, 0, none⟩), .pointer (some ⟨B, 0, none⟩)] W fun e W' => e = .returned (.tuple #[]) ∧ PutTo W W' I T ∧ W'.heap[I]? = some (.cells #[.int .i64 i0, .int .i64 i1, .int .i64 i2, .int .i64 i3, .int .i64 i4, .int .i64 i5, .int .u64 m, .int .i64 i7, .int .i64 i8, .int .i64 i9] 51 (0, 0)) ∧ ToldIs W' T t0 t1 v := by
  obtain ⟨e0, e1, e2⟩ := cells3_ hT
  have hf := fun j => blk_frozen hT j
  have HI := aq hI
  have HT := aq hT
  have HD := aq hd
  have hs0 : (W.setCell ⟨T, 2, none⟩ (.int .i64 v)).cell? ⟨B, 0, none⟩ = some (.int .i64 2) := (World.cell?_of_block (w := W) (Below.heap_setCell W ⟨T, 2, none⟩ _ B hBT)).trans hc
  obtain ⟨s0, s1, s2⟩ := cells3_ (blk_set hT 2 (.int .i64 v))
  clear hI hT hd
  go_enter Tryz.func233, Tryz.ntmps233
  go_wp2_with (first | (go_at_call 234; refine (mask_Decode.calls _ _ _ _ _ _ _ HD.out).mono ?_; rintro e w1 ⟨rfl, hb1⟩; have HI1 := aq ((hb1.block I (by simp [World.setCell]; exact (Array.getElem?_eq_some_iff.1 HI.out).1)).trans ((Below.heap_setCell W ⟨T, 2, none⟩ _ I hne).trans HI.out)); have HT1 := aq ((hb1.block T (by simp [World.setCell]; exact (Array.getElem?_eq_some_iff.1 HT.out).1)).trans (blk_set HT.out 2 _)); have HP1 := aq (((PutTo.refl W I T).set (.inr rfl) _).step hb1); obtain ⟨d0, d1, d2, d3, d4, d5, d6, d7, d8, d9⟩ := cells10_ HI1.out; have hfi := blk_frozen HI1.out 6; clear hb1) | (go_at_call 82; refine (code_must.ok _).mono ?_; rintro e w2 ⟨rfl, rfl⟩))
  go_end0
  exact ⟨rfl, HP1.out.set (.inl rfl) _, blk_set HI1.out 6 _, (Below.heap_setCell _ _ _ T (fun e => hne e.symm)).trans HT1.out⟩
set_option maxHeartbeats 4000000 in
theorem put_mk2_bad (I T B k : Nat) (i0 i1 i2 i3 i4 i5 i6 i7 i8 i9 : Int) (t0 t1 t2 v m x : Int) (W : World) (hI : W.heap[I]? = some (.cells #[.int .i64 i0, .int .i64 i1, .int .i64 i2, .int .i64 i3, .int .i64 i4, .int .i64 i5, .int .u64 i6, .int .i64 i7, .int .i64 i8, .int .i64 i9] 51 (0, 0))) (hne : I ≠ T) (hBT : B ≠ T) (hT : ToldIs W T t0 t1 t2) (hc : W.cell? ⟨B, 0, none⟩ = some (.int .i64 2)) (hd : mask_Decode.f k t0 t1 v = some (m, x)) (hx : x ≠ 0) : Calls Tryz.prog 233 #[.pointer (some ⟨I, 0, none⟩), .int .i64 v, .pointer (some ⟨T, 0, none⟩), .pointer (some ⟨B, 0, none⟩)] W fun e W' => e = .panicked [{ v := .iface 28 (.int .i64 x), recovered := false }] ∧ PutTo W W' I T ∧ W'.heap[I]? = some (.cells #[.int .i64 i0, .int .i64 i1, .int .i64 i2, .int .i64 i3, .int .i64 i4, .int .i64 i5, .int .u64 i6, .int .i64 i7, .int .i64 i8, .int .i64 i9] 51 (0, 0)) := by
  obtain ⟨e0, e1, e2⟩ := cells3_ hT
  have hf := fun j => blk_frozen hT j
  have HI := aq hI
  have HT := aq hT
  have HD := aq hd
  have hs0 : (W.setCell ⟨T, 2, none⟩ (.int .i64 v)).cell? ⟨B, 0, none⟩ = some (.int .i64 2) := (World.cell?_of_block (w := W) (Below.heap_setCell W ⟨T, 2, none⟩ _ B hBT)).trans hc
  obtain ⟨s0, s1, s2⟩ := cells3_ (blk_set hT 2 (.int .i64 v))
  clear hI hT hd
  go_enter Tryz.func233, Tryz.ntmps233
  go_wp2_with (first | (go_at_call 234; refine (mask_Decode.calls _ _ _ _ _ _ _ HD.out).mono ?_; rintro e w1 ⟨rfl, hb1⟩; have HI1 := aq ((hb1.block I (by simp [World.setCell]; exact (Array.getElem?_eq_some_iff.1 HI.out).1)).trans ((Below.heap_setCell W ⟨T, 2, none⟩ _ I hne).trans HI.out)); have HP1 := aq (((PutTo.refl W I T).set (.inr rfl) _).step hb1); clear hb1) | (go_at_call 82; refine (code_must.bad _ _ hx).mono ?_; rintro e w2 ⟨rfl, rfl⟩))
  exact ⟨rfl, rfl, HP1.out, HI1.out⟩
theorem PutV.move {w w' : World} {T lo : Nat} {p : PD} {g : Value} (h : PutV w T lo p g) (hm : ∀ B, lo ≤ B → B < w.heap.size → B ≠ T → w'.heap[B]? = w.heap[B]?) (hf : p.isCap = true → w.heap.size ≤ T) : PutV w' T lo p g := by
  have mv : ∀ B v, lo ≤ B → B ≠ T → w.cell? ⟨B, 0, none⟩ = some v → w'.cell? ⟨B, 0, none⟩ = some v := fun B v h1 h2 h3 => (World.cell?_of_block (w := w) (hm B h1 (World.block_lt_of_cell? w ⟨B, 0, none⟩ h3) h2)).trans h3
  cases p <;> simp only [PutV] at h ⊢
  all_goals first
    | exact h
    | (obtain ⟨B, hl, e, hc⟩ := h; exact ⟨B, hl, e, mv B _ hl (fun e => by have h1 := hf rfl; have h2 : B < w.heap.size := World.block_lt_of_cell? w ⟨B, 0, none⟩ hc; omega) hc⟩)
    | (obtain ⟨hj, B, hl, hn, e, hc⟩ := h; exact ⟨hj, B, hl, hn, e, mv B _ hl hn hc⟩)
theorem put_form {w : World} {T lo : Nat} {p : PD} {pf : Nat} {pc : Array Value} (h : PutV w T lo p (.func (.func pf) #[] pc)) : pc = #[] ∨ (∃ a, pc = #[a]) ∨ (∃ a b, pc = #[a, b]) := by
  cases p <;> simp only [PutV] at h
  all_goals first
    | (injection h with _ _ h; exact .inl h)
    | (obtain ⟨B, hl, e, hc⟩ := h; injection e with _ _ e; exact .inr (.inl ⟨_, e⟩))
    | (obtain ⟨hj, B, hl, hn, e, hc⟩ := h; injection e with _ _ e; exact .inr (.inr ⟨_, _, e⟩))
theorem put_enters {w : World} {T lo : Nat} {p : PD} {pf : Nat} {pc : Array Value} (h : PutV w T lo p (.func (.func pf) #[] pc)) : ∀ args W, (callFunc pf args).run Tryz.prog W = .ok (.enter pf args) W := by
  cases p <;> simp only [PutV] at h
  · injection h with h _ _; injection h with h; subst h; exact enters_ Tryz.func222 (by kernel_rfl) rfl
  · injection h with h _ _; injection h with h; subst h; exact enters_ Tryz.func228 (by kernel_rfl) rfl
  · injection h with h _ _; injection h with h; subst h; exact enters_ Tryz.func236 (by kernel_rfl) rfl
  · injection h with h _ _; injection h with h; subst h; exact enters_ Tryz.func240 (by kernel_rfl) rfl
  · obtain ⟨B, hl, h, hc⟩ := h; injection h with h _ _; injection h with h; subst h; exact enters_ Tryz.func224 (by kernel_rfl) rfl
  · obtain ⟨B, hl, h, hc⟩ := h; injection h with h _ _; injection h with h; subst h; exact enters_ Tryz.func226 (by kernel_rfl) rfl
  · injection h with h _ _; injection h with h; subst h; exact enters_ Tryz.func238 (by kernel_rfl) rfl
  · injection h with h _ _; injection h with h; subst h; exact enters_ Tryz.func246 (by kernel_rfl) rfl
  · injection h with h _ _; injection h with h; subst h; exact enters_ Tryz.func242 (by kernel_rfl) rfl
  · injection h with h _ _; injection h with h; subst h; exact enters_ Tryz.func244 (by kernel_rfl) rfl
  · obtain ⟨hj, B, hl, hn, h, hc⟩ := h; injection h with h _ _; injection h with h; subst h; exact enters_ Tryz.func233 (by kernel_rfl) rfl
theorem put_ok (k : Nat) (p : PD) (pf : Nat) (pc : Array Value) (c c' : CI) (t t' : T3) (v : Int) (W : World) (I T lo : Nat) (hp : PutV W T lo p (.func (.func pf) #[] pc)) (hI : CIAt W I c) (hne : I ≠ T) (ht : ∀ j, p = .mk j → ToldIs W T t.t0 t.t1 t.t2) (h : p.put k c t v = some (0, c', t')) :
    Calls Tryz.prog pf (#[.pointer (some ⟨I, 0, none⟩), .int .i64 v] ++ pc) W fun e W' => e = .returned (.tuple #[]) ∧ PutTo W W' I T ∧ CIAt W' I c' ∧ (ToldIs W T t.t0 t.t1 t.t2 → ToldIs W' T t'.t0 t'.t1 t'.t2) := by
  have told : ∀ W' : World, (T ≠ I → T < W.heap.size → W'.heap[T]? = W.heap[T]?) → ToldIs W T t.t0 t.t1 t.t2 → ToldIs W' T t.t0 t.t1 t.t2 := fun W' hm hT => (hm (Ne.symm hne) (Array.getElem?_eq_some_iff.1 hT).1).trans hT
  cases p with
  | d => simp only [PutV] at hp; injection hp with e1 _ e2; injection e1 with e1; subst e1 e2; simp only [PD.put] at h; injection h with h; injection h with _ h; injection h with h1 h2; subst h1 h2; exact (put_d I T _ _ _ _ _ _ _ _ _ _ v W hI).mono fun e W' ⟨he, h1, h2, h3⟩ => ⟨he, h1, h2, told W' h3⟩
  | n => simp only [PutV] at hp; injection hp with e1 _ e2; injection e1 with e1; subst e1 e2; simp only [PD.put] at h; injection h with h; injection h with _ h; injection h with h1 h2; subst h1 h2; exact (put_n I T _ _ _ _ _ _ _ _ _ _ v W hI).mono fun e W' ⟨he, h1, h2, h3⟩ => ⟨he, h1, h2, told W' h3⟩
  | m => simp only [PutV] at hp; injection hp with e1 _ e2; injection e1 with e1; subst e1 e2; simp only [PD.put] at h; injection h with h; injection h with _ h; injection h with h1 h2; subst h1 h2; exact (put_m I T _ _ _ _ _ _ _ _ _ _ v W hI).mono fun e W' ⟨he, h1, h2, h3⟩ => ⟨he, h1, h2, told W' h3⟩
  | a => simp only [PutV] at hp; injection hp with e1 _ e2; injection e1 with e1; subst e1 e2; simp only [PD.put] at h; injection h with h; injection h with _ h; injection h with h1 h2; subst h1 h2; exact (put_a I T _ _ _ _ _ _ _ _ _ _ v W hI).mono fun e W' ⟨he, h1, h2, h3⟩ => ⟨he, h1, h2, told W' h3⟩
  | sh => simp only [PutV] at hp; injection hp with e1 _ e2; injection e1 with e1; subst e1 e2; simp only [PD.put] at h; injection h with h; injection h with _ h; injection h with h1 h2; subst h1 h2; exact (put_sh I T _ _ _ _ _ _ _ _ _ _ v W hI).mono fun e W' ⟨he, h1, h2, h3⟩ => ⟨he, h1, h2, told W' h3⟩
  | cond x => simp only [PutV] at hp; injection hp with e1 _ e2; injection e1 with e1; subst e1 e2; simp only [PD.put] at h; injection h with h; injection h with _ h; injection h with h1 h2; subst h1 h2; exact (put_cond I T _ _ _ _ _ _ _ _ _ _ v W hI).mono fun e W' ⟨he, h1, h2, h3⟩ => ⟨he, h1, h2, told W' h3⟩
  | lo => simp only [PutV] at hp; injection hp with e1 _ e2; injection e1 with e1; subst e1 e2; simp only [PD.put] at h; injection h with h; injection h with _ h; injection h with h1 h2; subst h1 h2; exact (put_lo I T _ _ _ _ _ _ _ _ _ _ v W hI).mono fun e W' ⟨he, h1, h2, h3⟩ => ⟨he, h1, h2, told W' h3⟩
  | hi => simp only [PutV] at hp; injection hp with e1 _ e2; injection e1 with e1; subst e1 e2; simp only [PD.put] at h; injection h with h; injection h with _ h; injection h with h1 h2; subst h1 h2; exact (put_hi I T _ _ _ _ _ _ _ _ _ _ v W hI).mono fun e W' ⟨he, h1, h2, h3⟩ => ⟨he, h1, h2, told W' h3⟩
  | imm x y b s => simp only [PutV] at hp; obtain ⟨B, hl, hp, hc⟩ := hp; injection hp with e1 _ e2; injection e1 with e1; subst e1 e2; simp only [PD.put] at h; injection h with h; injection h with _ h; injection h with h1 h2; subst h1 h2; exact (put_imm I T B b _ _ _ _ _ _ _ _ _ _ v W hI hc).mono fun e W' ⟨he, h1, h2, h3⟩ => ⟨he, h1, h2, told W' h3⟩
  | amt x y b => simp only [PutV] at hp; obtain ⟨B, hl, hp, hc⟩ := hp; injection hp with e1 _ e2; injection e1 with e1; subst e1 e2; simp only [PD.put] at h; injection h with h; injection h with _ h; injection h with h1 h2; subst h1 h2; exact (put_amt I T B b _ _ _ _ _ _ _ _ _ _ v W hI hc).mono fun e W' ⟨he, h1, h2, h3⟩ => ⟨he, h1, h2, told W' h3⟩
  | mk j =>
    simp only [PutV] at hp
    obtain ⟨hj, B, hl, hBT, hp, hc⟩ := hp
    injection hp with e1 _ e2
    injection e1 with e1
    subst e1 e2
    have hT := ht j rfl
    obtain rfl | rfl | rfl : j = 0 ∨ j = 1 ∨ j = 2 := by omega
    · simp only [PD.put] at h
      injection h with h; injection h with _ h; injection h with h1 h2; subst h1 h2; exact (put_mk0 I T B _ _ _ _ _ _ _ _ _ _ _ _ _ v W hI hne hBT hT hc).mono fun e W' ⟨he, h1, h2, h3⟩ => ⟨he, h1, h2, fun _ => h3⟩
    · simp only [PD.put] at h
      injection h with h; injection h with _ h; injection h with h1 h2; subst h1 h2; exact (put_mk1 I T B _ _ _ _ _ _ _ _ _ _ _ _ _ v W hI hne hBT hT hc).mono fun e W' ⟨he, h1, h2, h3⟩ => ⟨he, h1, h2, fun _ => h3⟩
    · simp only [PD.put] at h
      obtain ⟨⟨m, x⟩, hd, h⟩ := Option.bind_eq_some_iff.mp h
      simp only at h
      split at h
      next hx =>
        subst hx
        injection h with h; injection h with _ h; injection h with h1 h2; subst h1 h2; exact (put_mk2 I T B k _ _ _ _ _ _ _ _ _ _ _ _ _ v m W hI hne hBT hT hc hd).mono fun e W' ⟨he, h1, h2, h3⟩ => ⟨he, h1, h2, fun _ => h3⟩
      next hx =>
        injection h with h
        injection h with h _
        exact absurd h hx
theorem put_bad (k : Nat) (p : PD) (pf : Nat) (pc : Array Value) (c c' : CI) (t t' : T3) (v x : Int) (W : World) (I T lo : Nat) (hp : PutV W T lo p (.func (.func pf) #[] pc)) (hI : CIAt W I c) (hne : I ≠ T) (ht : ∀ j, p = .mk j → ToldIs W T t.t0 t.t1 t.t2) (h : p.put k c t v = some (x, c', t')) (hx : x ≠ 0) :
    Calls Tryz.prog pf (#[.pointer (some ⟨I, 0, none⟩), .int .i64 v] ++ pc) W fun e W' => e = .panicked [{ v := .iface 28 (.int .i64 x), recovered := false }] ∧ PutTo W W' I T ∧ CIAt W' I c' := by
  cases p with
  | mk j =>
    simp only [PutV] at hp
    obtain ⟨hj, B, hl, hBT, hp, hc⟩ := hp
    injection hp with e1 _ e2
    injection e1 with e1
    subst e1 e2
    have hT := ht j rfl
    obtain rfl | rfl | rfl : j = 0 ∨ j = 1 ∨ j = 2 := by omega
    · simp only [PD.put] at h; injection h with h; injection h with h _; exact absurd h.symm hx
    · simp only [PD.put] at h; injection h with h; injection h with h _; exact absurd h.symm hx
    · simp only [PD.put] at h
      obtain ⟨⟨m, y⟩, hd, h⟩ := Option.bind_eq_some_iff.mp h
      simp only at h
      split at h
      next hy => injection h with h; injection h with h _; exact absurd h.symm hx
      next hy =>
        injection h with h
        injection h with h1 h
        injection h with h2 h3
        subst h1 h2
        exact put_mk2_bad I T B k _ _ _ _ _ _ _ _ _ _ _ _ _ v m _ W hI hne hBT hT hc hd hx
  | d => simp only [PD.put] at h; injection h with h; injection h with h _; exact absurd h.symm hx
  | n => simp only [PD.put] at h; injection h with h; injection h with h _; exact absurd h.symm hx
  | m => simp only [PD.put] at h; injection h with h; injection h with h _; exact absurd h.symm hx
  | a => simp only [PD.put] at h; injection h with h; injection h with h _; exact absurd h.symm hx
  | sh => simp only [PD.put] at h; injection h with h; injection h with h _; exact absurd h.symm hx
  | cond _ => simp only [PD.put] at h; injection h with h; injection h with h _; exact absurd h.symm hx
  | lo => simp only [PD.put] at h; injection h with h; injection h with h _; exact absurd h.symm hx
  | hi => simp only [PD.put] at h; injection h with h; injection h with h _; exact absurd h.symm hx
  | imm _ _ _ _ => simp only [PD.put] at h; injection h with h; injection h with h _; exact absurd h.symm hx
  | amt _ _ _ => simp only [PD.put] at h; injection h with h; injection h with h _; exact absurd h.symm hx
theorem PutTo.trans {W W1 W2 : World} {I T : Nat} (h : PutTo W W1 I T) (g : PutTo W1 W2 I T) : PutTo W W2 I T where
  block b hl h1 h2 := (g.block b (Nat.lt_of_lt_of_le hl h.size) h1 h2).trans (h.block b hl h1 h2)
  size := Nat.le_trans h.size g.size
  below w hw hI hT := g.below w (h.below w hw hI hT) hI hT
def CI.zero : CI := ⟨0, 0, 0, 0, 0, 0, 0, 0, 0, 0⟩
def ErrAt (w : World) (E : Nat) (x : Int) : Prop := w.heap[E]? = some (.cells #[.int .i64 x] 28 (0, 0))
def CI.is (k : Nat) (c : CI) : Option Bool := inst_Is.f k c.o c.d c.n c.m c.a c.im c.ms c.sh c.am c.cd
set_option maxHeartbeats 1000000 in
set_option maxRecDepth 100000 in
theorem catch_err (E I : Nat) (hEI : E ≠ I) (x y : Int) (c : CI) (older : List PanicEntry) (W : World) (hE : ErrAt W E y) (hI : CIAt W I c) :
    CallsD Tryz.prog 78 #[.pointer (some ⟨E, 0, none⟩), .pointer (some ⟨I, 0, none⟩)] (.panicking ({ v := .iface 28 (.int .i64 x), recovered := false } :: older)) W fun e u' W' =>
      e = .returned (.tuple #[]) ∧ u' = .panicking ({ v := .iface 28 (.int .i64 x), recovered := true } :: older) ∧ ErrAt W' E 11 ∧ CIAt W' I CI.zero ∧ PutTo W W' I E := by
  have hc0 : W.cell? ⟨E, 0, none⟩ = some (.int .i64 y) := (blk_cell hE 0).trans rfl
  obtain ⟨d0, d1, d2, d3, d4, d5, d6, d7, d8, d9⟩ := cells10_ hI
  have hf := fun j => blk_frozen hI j
  have hfE := blk_frozen hE 0
  have hta : ∀ w, (Instr.typeAssert (.iface 28 (.int .i64 x)) 20 28 true).run Tryz.prog w = .ok (.tuple #[.int .i64 x, .bool true]) w := fun w => by kernel_rfl
  refine callsD_of_wpS Tryz.func78 rfl fun c₀ cs hu => ?_
  apply wpS_seq
  apply wpS_region
  simp [wpOpsS, go_sem, recoverD, hu, Tryz.ntmps78, Exit.thenS, hta]
  refine wpS_of_wp (Code.wp_mono (Q := fun e a' w' => e = .normal ∧ a'.defers = [] ∧ ErrAt w' E 11 ∧ CIAt w' I CI.zero ∧ PutTo W w' I E) (fun e a' w' h => ?_) ?_)
  · obtain ⟨rfl, hd, h1, h2, h3⟩ := h
    exact ⟨hd, _, rfl, .tuple #[], by simp [results, Tryz.results78], rfl, rfl, h1, h2, h3⟩
  · have HE := aq hE
    have HI := aq hI
    clear hE hI hu
    have hr : Array.replicate 18 undef = #[undef, undef, undef, undef, undef, undef, undef, undef, undef, undef, undef, undef, undef, undef, undef, undef, undef, undef] := rfl
    simp only [hr, List.setIfInBounds_toArray, List.set_cons_zero, List.set_cons_succ, List.append_toArray, List.cons_append, List.nil_append]
    clear hr hta
    generalize hQ : (fun (e : Exit) (a' : Act) (w' : World) => e = Exit.normal ∧ a'.defers = [] ∧ ErrAt w' E 11 ∧ CIAt w' I CI.zero ∧ PutTo W w' I E) = Q
    go_wp2
    subst hQ
    refine ⟨rfl, rfl, ?_, ?_, ?_⟩
    · clear HI
      have s0 : W.heap[E]? = some (.cells #[.int .i64 y] 28 (0, 0)) := HE.out
      replace s0 := blk_far s0 (p := ⟨I, 0, none⟩) hEI (.int .i64 0)
      replace s0 := blk_far s0 (p := ⟨I, 1, none⟩) hEI (.int .i64 0)
      replace s0 := blk_far s0 (p := ⟨I, 2, none⟩) hEI (.int .i64 0)
      replace s0 := blk_far s0 (p := ⟨I, 3, none⟩) hEI (.int .i64 0)
      replace s0 := blk_far s0 (p := ⟨I, 4, none⟩) hEI (.int .i64 0)
      replace s0 := blk_far s0 (p := ⟨I, 5, none⟩) hEI (.int .i64 0)
      replace s0 := blk_far s0 (p := ⟨I, 6, none⟩) hEI (.int .u64 0)
      replace s0 := blk_far s0 (p := ⟨I, 7, none⟩) hEI (.int .i64 0)
      replace s0 := blk_far s0 (p := ⟨I, 8, none⟩) hEI (.int .i64 0)
      replace s0 := blk_far s0 (p := ⟨I, 9, none⟩) hEI (.int .i64 0)
      replace s0 := blk_set s0 0 (.int .i64 11)
      simp only [List.setIfInBounds_toArray, List.set_cons_zero, List.set_cons_succ] at s0
      exact s0
    · clear HE
      have s0 : W.heap[I]? = some (.cells #[.int .i64 c.o, .int .i64 c.d, .int .i64 c.n, .int .i64 c.m, .int .i64 c.a, .int .i64 c.im, .int .u64 c.ms, .int .i64 c.sh, .int .i64 c.am, .int .i64 c.cd] 51 (0, 0)) := HI.out
      replace s0 := blk_set s0 0 (.int .i64 0)
      simp only [List.setIfInBounds_toArray, List.set_cons_zero, List.set_cons_succ] at s0
      replace s0 := blk_set s0 1 (.int .i64 0)
      simp only [List.setIfInBounds_toArray, List.set_cons_zero, List.set_cons_succ] at s0
      replace s0 := blk_set s0 2 (.int .i64 0)
      simp only [List.setIfInBounds_toArray, List.set_cons_zero, List.set_cons_succ] at s0
      replace s0 := blk_set s0 3 (.int .i64 0)
      simp only [List.setIfInBounds_toArray, List.set_cons_zero, List.set_cons_succ] at s0
      replace s0 := blk_set s0 4 (.int .i64 0)
      simp only [List.setIfInBounds_toArray, List.set_cons_zero, List.set_cons_succ] at s0
      replace s0 := blk_set s0 5 (.int .i64 0)
      simp only [List.setIfInBounds_toArray, List.set_cons_zero, List.set_cons_succ] at s0
      replace s0 := blk_set s0 6 (.int .u64 0)
      simp only [List.setIfInBounds_toArray, List.set_cons_zero, List.set_cons_succ] at s0
      replace s0 := blk_set s0 7 (.int .i64 0)
      simp only [List.setIfInBounds_toArray, List.set_cons_zero, List.set_cons_succ] at s0
      replace s0 := blk_set s0 8 (.int .i64 0)
      simp only [List.setIfInBounds_toArray, List.set_cons_zero, List.set_cons_succ] at s0
      replace s0 := blk_set s0 9 (.int .i64 0)
      simp only [List.setIfInBounds_toArray, List.set_cons_zero, List.set_cons_succ] at s0
      exact blk_far s0 (Ne.symm hEI) _
    · exact (((((((((((PutTo.refl W I E).set (.inl rfl) _).set (.inl rfl) _).set (.inl rfl) _).set (.inl rfl) _).set (.inl rfl) _).set (.inl rfl) _).set (.inl rfl) _).set (.inl rfl) _).set (.inl rfl) _).set (.inl rfl) _).set (.inr rfl) _
set_option maxHeartbeats 1000000 in
set_option maxRecDepth 100000 in
theorem idle_ok (k E I : Nat) (hEI : E ≠ I) (c : CI) (W : World) (hE : ErrAt W E 0) (hI : CIAt W I c) (his : c.is k = some true) (hTab : TabW W) :
    CallsD Tryz.prog 78 #[.pointer (some ⟨E, 0, none⟩), .pointer (some ⟨I, 0, none⟩)] .returning W fun e u' w' => e = .returned (.tuple #[]) ∧ u' = .returning ∧ Below W.heap.size W w' := by
  have hc0 : W.cell? ⟨E, 0, none⟩ = some (.int .i64 0) := (blk_cell hE 0).trans rfl
  obtain ⟨d0, d1, d2, d3, d4, d5, d6, d7, d8, d9⟩ := cells10_ hI
  have hta : ∀ w, (Instr.typeAssert .nilIface 20 28 true).run Tryz.prog w = .ok (.tuple #[.int .i64 0, .bool false]) w := fun w => by kernel_rfl
  refine callsD_of_wpS Tryz.func78 rfl fun c₀ cs hu => ?_
  apply wpS_seq
  apply wpS_region
  simp [wpOpsS, go_sem, recoverD, hu, Tryz.ntmps78, Exit.thenS, hta]
  refine wpS_of_wp (Code.wp_mono (Q := fun e a' w' => e = .normal ∧ a'.defers = [] ∧ Below W.heap.size W w') (fun e a' w' h => ?_) ?_)
  · obtain ⟨rfl, hd, h1⟩ := h
    exact ⟨hd, .returning, by rw [← hu], .tuple #[], by simp [results, Tryz.results78], rfl, rfl, h1⟩
  · have HE := aq hE
    have HI := aq hI
    have HIS := aq his
    clear hE hI hu his
    have hr : Array.replicate 18 undef = #[undef, undef, undef, undef, undef, undef, undef, undef, undef, undef, undef, undef, undef, undef, undef, undef, undef, undef] := rfl
    simp only [hr, List.setIfInBounds_toArray, List.set_cons_zero, List.set_cons_succ, List.append_toArray, List.cons_append, List.nil_append]
    clear hr hta
    generalize hQ : (fun (e : Exit) (a' : Act) (w' : World) => e = Exit.normal ∧ a'.defers = [] ∧ Below W.heap.size W w') = Q
    go_wp2_with (go_at_call 79; refine (inst_Is.calls k _ _ _ _ _ _ _ _ _ _ _ _ HIS.out (hTab := hTab)).mono ?_; rintro e w1 ⟨rfl, hb1⟩; have HB1 := aq hb1; (try (have hI1 := (hb1.block I (Array.getElem?_eq_some_iff.1 HI.out).1).trans HI.out; obtain ⟨f0, f1, f2, f3, f4, f5, f6, f7, f8, f9⟩ := cells10_ hI1; have hfi := fun j => blk_frozen hI1 j; have hE1 := (hb1.block E (Array.getElem?_eq_some_iff.1 HE.out).1).trans HE.out; have hfE := blk_frozen hE1 0; have hcE := (blk_cell hE1 0).trans rfl; have HI1 := aq hI1; have HE1 := aq hE1; clear hI1 hE1)); clear hb1)
    subst hQ
    exact ⟨rfl, rfl, HB1.out⟩
set_option maxHeartbeats 1000000 in
set_option maxRecDepth 100000 in
theorem idle_no (k E I : Nat) (hEI : E ≠ I) (c : CI) (W : World) (hE : ErrAt W E 0) (hI : CIAt W I c) (his : c.is k = some false) (hTab : TabW W) :
    CallsD Tryz.prog 78 #[.pointer (some ⟨E, 0, none⟩), .pointer (some ⟨I, 0, none⟩)] .returning W fun e u' w' => e = .returned (.tuple #[]) ∧ u' = .returning ∧ ErrAt w' E 11 ∧ CIAt w' I CI.zero ∧ PutTo W w' I E := by
  have hc0 : W.cell? ⟨E, 0, none⟩ = some (.int .i64 0) := (blk_cell hE 0).trans rfl
  obtain ⟨d0, d1, d2, d3, d4, d5, d6, d7, d8, d9⟩ := cells10_ hI
  have hta : ∀ w, (Instr.typeAssert .nilIface 20 28 true).run Tryz.prog w = .ok (.tuple #[.int .i64 0, .bool false]) w := fun w => by kernel_rfl
  refine callsD_of_wpS Tryz.func78 rfl fun c₀ cs hu => ?_
  apply wpS_seq
  apply wpS_region
  simp [wpOpsS, go_sem, recoverD, hu, Tryz.ntmps78, Exit.thenS, hta]
  refine wpS_of_wp (Code.wp_mono (Q := fun e a' w' => e = .normal ∧ a'.defers = [] ∧ ErrAt w' E 11 ∧ CIAt w' I CI.zero ∧ PutTo W w' I E) (fun e a' w' h => ?_) ?_)
  · obtain ⟨rfl, hd, h1⟩ := h
    exact ⟨hd, .returning, by rw [← hu], .tuple #[], by simp [results, Tryz.results78], rfl, rfl, h1⟩
  · have HE := aq hE
    have HI := aq hI
    have HIS := aq his
    clear hE hI hu his
    have hr : Array.replicate 18 undef = #[undef, undef, undef, undef, undef, undef, undef, undef, undef, undef, undef, undef, undef, undef, undef, undef, undef, undef] := rfl
    simp only [hr, List.setIfInBounds_toArray, List.set_cons_zero, List.set_cons_succ, List.append_toArray, List.cons_append, List.nil_append]
    clear hr hta
    generalize hQ : (fun (e : Exit) (a' : Act) (w' : World) => e = Exit.normal ∧ a'.defers = [] ∧ ErrAt w' E 11 ∧ CIAt w' I CI.zero ∧ PutTo W w' I E) = Q
    go_wp2_with (go_at_call 79; refine (inst_Is.calls k _ _ _ _ _ _ _ _ _ _ _ _ HIS.out (hTab := hTab)).mono ?_; rintro e w1 ⟨rfl, hb1⟩; have HB1 := aq hb1; (try (have hI1 := (hb1.block I (Array.getElem?_eq_some_iff.1 HI.out).1).trans HI.out; obtain ⟨f0, f1, f2, f3, f4, f5, f6, f7, f8, f9⟩ := cells10_ hI1; have hfi := fun j => blk_frozen hI1 j; have hE1 := (hb1.block E (Array.getElem?_eq_some_iff.1 HE.out).1).trans HE.out; have hfE := blk_frozen hE1 0; have hcE := (blk_cell hE1 0).trans rfl; have HI1 := aq hI1; have HE1 := aq hE1; clear hI1 hE1)); clear hb1)
    subst hQ
    refine ⟨rfl, rfl, ?_, ?_, ?_⟩
    · skip
      have s0 : w1.heap[E]? = some (.cells #[.int .i64 0] 28 (0, 0)) := HE1.out
      replace s0 := blk_far s0 (p := ⟨I, 0, none⟩) hEI (.int .i64 0)
      replace s0 := blk_far s0 (p := ⟨I, 1, none⟩) hEI (.int .i64 0)
      replace s0 := blk_far s0 (p := ⟨I, 2, none⟩) hEI (.int .i64 0)
      replace s0 := blk_far s0 (p := ⟨I, 3, none⟩) hEI (.int .i64 0)
      replace s0 := blk_far s0 (p := ⟨I, 4, none⟩) hEI (.int .i64 0)
      replace s0 := blk_far s0 (p := ⟨I, 5, none⟩) hEI (.int .i64 0)
      replace s0 := blk_far s0 (p := ⟨I, 6, none⟩) hEI (.int .u64 0)
      replace s0 := blk_far s0 (p := ⟨I, 7, none⟩) hEI (.int .i64 0)
      replace s0 := blk_far s0 (p := ⟨I, 8, none⟩) hEI (.int .i64 0)
      replace s0 := blk_far s0 (p := ⟨I, 9, none⟩) hEI (.int .i64 0)
      replace s0 := blk_set s0 0 (.int .i64 11)
      simp only [List.setIfInBounds_toArray, List.set_cons_zero, List.set_cons_succ] at s0
      exact s0
    · skip
      have s0 : w1.heap[I]? = some (.cells #[.int .i64 c.o, .int .i64 c.d, .int .i64 c.n, .int .i64 c.m, .int .i64 c.a, .int .i64 c.im, .int .u64 c.ms, .int .i64 c.sh, .int .i64 c.am, .int .i64 c.cd] 51 (0, 0)) := HI1.out
      replace s0 := blk_set s0 0 (.int .i64 0)
      simp only [List.setIfInBounds_toArray, List.set_cons_zero, List.set_cons_succ] at s0
      replace s0 := blk_set s0 1 (.int .i64 0)
      simp only [List.setIfInBounds_toArray, List.set_cons_zero, List.set_cons_succ] at s0
      replace s0 := blk_set s0 2 (.int .i64 0)
      simp only [List.setIfInBounds_toArray, List.set_cons_zero, List.set_cons_succ] at s0
      replace s0 := blk_set s0 3 (.int .i64 0)
      simp only [List.setIfInBounds_toArray, List.set_cons_zero, List.set_cons_succ] at s0
      replace s0 := blk_set s0 4 (.int .i64 0)
      simp only [List.setIfInBounds_toArray, List.set_cons_zero, List.set_cons_succ] at s0
      replace s0 := blk_set s0 5 (.int .i64 0)
      simp only [List.setIfInBounds_toArray, List.set_cons_zero, List.set_cons_succ] at s0
      replace s0 := blk_set s0 6 (.int .u64 0)
      simp only [List.setIfInBounds_toArray, List.set_cons_zero, List.set_cons_succ] at s0
      replace s0 := blk_set s0 7 (.int .i64 0)
      simp only [List.setIfInBounds_toArray, List.set_cons_zero, List.set_cons_succ] at s0
      replace s0 := blk_set s0 8 (.int .i64 0)
      simp only [List.setIfInBounds_toArray, List.set_cons_zero, List.set_cons_succ] at s0
      replace s0 := blk_set s0 9 (.int .i64 0)
      simp only [List.setIfInBounds_toArray, List.set_cons_zero, List.set_cons_succ] at s0
      exact blk_far s0 (Ne.symm hEI) _
    · exact ((((((((((((PutTo.refl W I E).step HB1.out).set (.inl rfl) _).set (.inl rfl) _).set (.inl rfl) _).set (.inl rfl) _).set (.inl rfl) _).set (.inl rfl) _).set (.inl rfl) _).set (.inl rfl) _).set (.inl rfl) _).set (.inl rfl) _).set (.inr rfl) _
theorem al_lt_ (w : World) (o : Obj) : w.heap.size < (w.alloc o).heap.size := by simp
theorem al2_lt_ (w : World) (o1 o2 : Obj) : w.heap.size + 1 < ((w.alloc o1).alloc o2).heap.size := by simp
theorem al2_last_ (w : World) (o1 o2 : Obj) : ((w.alloc o1).alloc o2).heap[w.heap.size + 1]? = some o2 := by
  have e : w.heap.size + 1 = (w.alloc o1).heap.size := by simp
  rw [e]
  exact cd_last (w.alloc o1) o2
def decGo (k : Nat) (w : Int) : List PD → CI → T3 → Option (Int × CI)
  | [], c, _ => some (0, c)
  | p :: ps, c, t => (bits_Field.f w p.at_ p.n_).bind fun q => if q.2 = 0 then (if p.sg_ = true then (bits_Signed.f k q.1 p.n_).bind fun s => if s.2 = 0 then some s.1 else none else some (wrap64 q.1)).bind fun v => (p.put k c t v).bind fun r => if r.1 = 0 then decGo k w ps r.2.1 r.2.2 else some (r.1, r.2.1) else none
def tup (c : CI) (e : Int) : Int × Int × Int × Int × Int × Int × Int × Int × Int × Int × Int := (c.o, c.d, c.n, c.m, c.a, c.im, c.ms, c.sh, c.am, c.cd, e)
def code_Decode.f (k : Nat) (w : Int) : Option (Int × Int × Int × Int × Int × Int × Int × Int × Int × Int × Int) :=
  (code_Opcode.f k w).bind fun op => (inst_Shape.f op).bind fun s => (decGo k w (partsOf s) ⟨op, 0, 0, 0, 0, 0, 0, 0, 0, 0⟩ ⟨0, 0, 0⟩).bind fun r =>
    if r.1 = 0 then (r.2.is k).bind fun b => if b = true then some (tup r.2 0) else some (tup CI.zero 11) else some (tup CI.zero 11)
def noMk (l : List PD) : Bool := l.all fun p => match p with | .mk _ => false | _ => true
theorem ite_noMk {c : Prop} [Decidable c] {a b : List PD} (ha : noMk a = true) (hb : noMk b = true) : noMk (if c then a else b) = true := by
  by_cases h : c
  · rw [if_pos h]; exact ha
  · rw [if_neg h]; exact hb
theorem parts_mk {s : Int} {j : Nat} (h : PD.mk j ∈ partsOf s) : s = 3 := by
  apply Classical.byContradiction
  intro hs
  have hn : noMk (partsOf s) = true := by
    unfold partsOf
    rw [if_neg hs]
    repeat (refine ite_noMk (by decide) ?_)
    decide
  have := List.all_eq_true.1 hn _ h
  simp at this
theorem store_back (w0 wr : World) (I E : Nat) (c : CI) (x : Int) (hI : CIAt wr I c) (hE : ErrAt wr E x) (hEI : E ≠ I) (hb : Below w0.heap.size w0 wr) (lI : w0.heap.size ≤ I) (lE : w0.heap.size ≤ E) :
    CIAt ((((((((((((wr.setCell ⟨I, 0, none⟩ (.int .i64 c.o)).setCell ⟨I, 1, none⟩ (.int .i64 c.d)).setCell ⟨I, 2, none⟩ (.int .i64 c.n)).setCell ⟨I, 3, none⟩ (.int .i64 c.m)).setCell ⟨I, 4, none⟩ (.int .i64 c.a)).setCell ⟨I, 5, none⟩ (.int .i64 c.im)).setCell ⟨I, 6, none⟩ (.int .u64 c.ms)).setCell ⟨I, 7, none⟩ (.int .i64 c.sh)).setCell ⟨I, 8, none⟩ (.int .i64 c.am)).setCell ⟨I, 9, none⟩ (.int .i64 c.cd)).setCell ⟨E, 0, none⟩ (.int .i64 0))) I c ∧ ErrAt ((((((((((((wr.setCell ⟨I, 0, none⟩ (.int .i64 c.o)).setCell ⟨I, 1, none⟩ (.int .i64 c.d)).setCell ⟨I, 2, none⟩ (.int .i64 c.n)).setCell ⟨I, 3, none⟩ (.int .i64 c.m)).setCell ⟨I, 4, none⟩ (.int .i64 c.a)).setCell ⟨I, 5, none⟩ (.int .i64 c.im)).setCell ⟨I, 6, none⟩ (.int .u64 c.ms)).setCell ⟨I, 7, none⟩ (.int .i64 c.sh)).setCell ⟨I, 8, none⟩ (.int .i64 c.am)).setCell ⟨I, 9, none⟩ (.int .i64 c.cd)).setCell ⟨E, 0, none⟩ (.int .i64 0))) E 0 ∧ Below w0.heap.size w0 ((((((((((((wr.setCell ⟨I, 0, none⟩ (.int .i64 c.o)).setCell ⟨I, 1, none⟩ (.int .i64 c.d)).setCell ⟨I, 2, none⟩ (.int .i64 c.n)).setCell ⟨I, 3, none⟩ (.int .i64 c.m)).setCell ⟨I, 4, none⟩ (.int .i64 c.a)).setCell ⟨I, 5, none⟩ (.int .i64 c.im)).setCell ⟨I, 6, none⟩ (.int .u64 c.ms)).setCell ⟨I, 7, none⟩ (.int .i64 c.sh)).setCell ⟨I, 8, none⟩ (.int .i64 c.am)).setCell ⟨I, 9, none⟩ (.int .i64 c.cd)).setCell ⟨E, 0, none⟩ (.int .i64 0))) := by
  refine ⟨?_, ?_, ?_⟩
  · have s0 : wr.heap[I]? = some (.cells #[.int .i64 c.o, .int .i64 c.d, .int .i64 c.n, .int .i64 c.m, .int .i64 c.a, .int .i64 c.im, .int .u64 c.ms, .int .i64 c.sh, .int .i64 c.am, .int .i64 c.cd] 51 (0, 0)) := hI
    replace s0 := blk_set s0 0 (.int .i64 c.o)
    simp only [List.setIfInBounds_toArray, List.set_cons_zero, List.set_cons_succ] at s0
    replace s0 := blk_set s0 1 (.int .i64 c.d)
    simp only [List.setIfInBounds_toArray, List.set_cons_zero, List.set_cons_succ] at s0
    replace s0 := blk_set s0 2 (.int .i64 c.n)
    simp only [List.setIfInBounds_toArray, List.set_cons_zero, List.set_cons_succ] at s0
    replace s0 := blk_set s0 3 (.int .i64 c.m)
    simp only [List.setIfInBounds_toArray, List.set_cons_zero, List.set_cons_succ] at s0
    replace s0 := blk_set s0 4 (.int .i64 c.a)
    simp only [List.setIfInBounds_toArray, List.set_cons_zero, List.set_cons_succ] at s0
    replace s0 := blk_set s0 5 (.int .i64 c.im)
    simp only [List.setIfInBounds_toArray, List.set_cons_zero, List.set_cons_succ] at s0
    replace s0 := blk_set s0 6 (.int .u64 c.ms)
    simp only [List.setIfInBounds_toArray, List.set_cons_zero, List.set_cons_succ] at s0
    replace s0 := blk_set s0 7 (.int .i64 c.sh)
    simp only [List.setIfInBounds_toArray, List.set_cons_zero, List.set_cons_succ] at s0
    replace s0 := blk_set s0 8 (.int .i64 c.am)
    simp only [List.setIfInBounds_toArray, List.set_cons_zero, List.set_cons_succ] at s0
    replace s0 := blk_set s0 9 (.int .i64 c.cd)
    simp only [List.setIfInBounds_toArray, List.set_cons_zero, List.set_cons_succ] at s0
    exact blk_far s0 (Ne.symm hEI) _
  · have s0 : wr.heap[E]? = some (.cells #[.int .i64 x] 28 (0, 0)) := hE
    replace s0 := blk_far s0 (p := ⟨I, 0, none⟩) hEI (.int .i64 c.o)
    replace s0 := blk_far s0 (p := ⟨I, 1, none⟩) hEI (.int .i64 c.d)
    replace s0 := blk_far s0 (p := ⟨I, 2, none⟩) hEI (.int .i64 c.n)
    replace s0 := blk_far s0 (p := ⟨I, 3, none⟩) hEI (.int .i64 c.m)
    replace s0 := blk_far s0 (p := ⟨I, 4, none⟩) hEI (.int .i64 c.a)
    replace s0 := blk_far s0 (p := ⟨I, 5, none⟩) hEI (.int .i64 c.im)
    replace s0 := blk_far s0 (p := ⟨I, 6, none⟩) hEI (.int .u64 c.ms)
    replace s0 := blk_far s0 (p := ⟨I, 7, none⟩) hEI (.int .i64 c.sh)
    replace s0 := blk_far s0 (p := ⟨I, 8, none⟩) hEI (.int .i64 c.am)
    replace s0 := blk_far s0 (p := ⟨I, 9, none⟩) hEI (.int .i64 c.cd)
    exact blk_set s0 0 (.int .i64 0)
  · exact (((((((((((hb.setCell lI _).setCell lI _).setCell lI _).setCell lI _).setCell lI _).setCell lI _).setCell lI _).setCell lI _).setCell lI _).setCell lI _).setCell lE _)
theorem put_ok_at (k : Nat) (p : PD) (pf : Nat) (pc args : Array Value) (c c' : CI) (t t' : T3) (v : Int) (wr W : World) (I T lo : Nat) (hp : PutV wr T lo p (.func (.func pf) #[] pc)) (hI : CIAt wr I c) (hne : I ≠ T) (ht : ∀ j, p = .mk j → ToldIs wr T t.t0 t.t1 t.t2) (h : p.put k c t v = some (0, c', t')) (ha : args = #[.pointer (some ⟨I, 0, none⟩), .int .i64 v] ++ pc) (hB : Below wr.heap.size wr W) :
    Calls Tryz.prog pf args W fun e W' => e = .returned (.tuple #[]) ∧ PutTo wr W' I T ∧ CIAt W' I c' ∧ (ToldIs wr T t.t0 t.t1 t.t2 → ToldIs W' T t'.t0 t'.t1 t'.t2) := by
  subst ha
  refine (put_ok k p pf pc c c' t t' v W I T lo (hp.below hB) ((hB.block I (Array.getElem?_eq_some_iff.1 hI).1).trans hI) hne (fun j e => (ht j e).below hB) h).mono ?_
  rintro e W' ⟨rfl, h1, h2, h3⟩
  exact ⟨rfl, ((PutTo.refl wr I T).step hB).trans h1, h2, fun hT => h3 (hT.below hB)⟩
theorem put_bad_at (k : Nat) (p : PD) (pf : Nat) (pc args : Array Value) (c c' : CI) (t t' : T3) (v x : Int) (wr W : World) (I T lo : Nat) (hp : PutV wr T lo p (.func (.func pf) #[] pc)) (hI : CIAt wr I c) (hne : I ≠ T) (ht : ∀ j, p = .mk j → ToldIs wr T t.t0 t.t1 t.t2) (h : p.put k c t v = some (x, c', t')) (hx : x ≠ 0) (ha : args = #[.pointer (some ⟨I, 0, none⟩), .int .i64 v] ++ pc) (hB : Below wr.heap.size wr W) :
    Calls Tryz.prog pf args W fun e W' => e = .panicked [{ v := .iface 28 (.int .i64 x), recovered := false }] ∧ PutTo wr W' I T ∧ CIAt W' I c' := by
  subst ha
  refine (put_bad k p pf pc c c' t t' v x W I T lo (hp.below hB) ((hB.block I (Array.getElem?_eq_some_iff.1 hI).1).trans hI) hne (fun j e => (ht j e).below hB) h hx).mono ?_
  rintro e W' ⟨rfl, h1, h2⟩
  exact ⟨rfl, ((PutTo.refl wr I T).step hB).trans h1, h2⟩
set_option maxHeartbeats 16000000 in
set_option maxRecDepth 100000 in
theorem code_Decode.calls (k : Nat) (a0 : Int) (r0 r1 r2 r3 r4 r5 r6 r7 r8 r9 r10 : Int) (w : World) (h : code_Decode.f k a0 = some (r0, r1, r2, r3, r4, r5, r6, r7, r8, r9, r10)) (hTab : TabW w := by first | exact hTab | exact TabW.drew hTab | exact TabW.drewN hTab _ | exact TabW.below hTab (by repeat (first | (with_reducible first | exact HB.out | apply below_alloc | apply pw_below_drewN | apply below_drew1) | refine Below.setCell ?_ (Aside0.out (by assumption)) _ | exact HB.out | exact Below.refl _ _))) :
    Calls Tryz.prog 26 #[.int .u32 a0] w fun e w' => e = .returned (.tuple #[.agg #[.int .i64 r0, .int .i64 r1, .int .i64 r2, .int .i64 r3, .int .i64 r4, .int .i64 r5, .int .u64 r6, .int .i64 r7, .int .i64 r8, .int .i64 r9], .int .i64 r10]) ∧ Below w.heap.size w w' := by
  have hmf : ∀ (fn : Fn) (first cap : Array Value) (w : World), (Instr.makeFunc fn first cap).run Tryz.prog w = .ok (.func fn first cap) w := fun _ _ _ _ => rfl
  unfold code_Decode.f at h
  obtain ⟨op, hop, h⟩ := Option.bind_eq_some_iff.mp h
  obtain ⟨s, hs, h⟩ := Option.bind_eq_some_iff.mp h
  obtain ⟨⟨ee, cc⟩, hd, h⟩ := Option.bind_eq_some_iff.mp h
  have HO := aq hop
  have HS := aq hs
  have HD := aq hd
  have HH := aq h
  clear h hop hs hd
  go_enter_defers Tryz.func26, Tryz.ntmps26
  go_wp2_with (go_at_call 57; refine (code_Opcode.calls _ _ _ _ HO.out).mono ?_; rintro e w1 ⟨rfl, hb1⟩; have hI := (hb1.block w.heap.size (Nat.lt_trans (al_lt_ w _) (al_lt_ _ _))).trans (blk_alloc (cd_last w _) _); obtain ⟨d0, d1, d2, d3, d4, d5, d6, d7, d8, d9⟩ := cells10_ hI; have hf := fun j => blk_frozen hI j; have HI1 := aq hI; have HB1 := aq hb1; clear hb1 hI)
  have hI2 := blk_set HI1.out 0 (.int .i64 op)
  simp only [List.setIfInBounds_toArray, List.set_cons_zero, List.set_cons_succ] at hI2
  have hE2 := blk_far ((HB1.out.block (w.heap.size + 1) (al2_lt_ w _ _)).trans (al2_last_ w _ _)) (p := ⟨w.heap.size, 0, none⟩) (by simp) (.int .i64 op)
  have hB2 := Below.setCell (below_step (below_alloc (below_alloc (Below.refl _ _) _) _) HB1.out) (p := ⟨w.heap.size, 0, none⟩) (Nat.le_refl _) (.int .i64 op)
  generalize w1.setCell ⟨w.heap.size, 0, none⟩ (.int .i64 op) = w2 at hI2 hE2 hB2 ⊢
  have HI2 := aq hI2
  have HE2 := aq hE2
  have HB2 := aq hB2
  clear HI1 HB1 hI2 hE2 hB2 d0 d1 d2 d3 d4 d5 d6 d7 d8 d9 hf w1
  have hlo2 : w.heap.size + 2 ≤ w2.heap.size := (Array.getElem?_eq_some_iff.1 HE2.out).1
  refine (inst_Shape.calls _ _ _ HS.out).mono ?_
  rintro e w2b ⟨rfl, hb2⟩
  have HB2b := aq hb2
  clear hb2
  go_wp2_with (go_at_call 80; refine (code_parts.calls s (w.heap.size + 2) _ (Nat.le_trans hlo2 HB2b.out.size)).mono ?_; rintro e w3 ⟨A, T, R, cap, rfl, hp⟩; have HP := aq hp; clear hp)
  have hB23 := below_step HB2b.out HP.out.below
  have HI3 := aq ((hB23.block w.heap.size (by omega)).trans HI2.out)
  have HE3 := aq ((hB23.block (w.heap.size + 1) (by omega)).trans HE2.out)
  have HB3 := aq (below_step HB2.out hB23)
  have hsz2 := HB2b.out.size
  clear hB23
  have HL5 := aq (parts_len s)
  have HMK := aq (fun (hm : ∃ j, PD.mk j ∈ partsOf s) => HP.out.told (by obtain ⟨j, hj⟩ := hm; exact parts_mk hj))
  have HN := aq HP.out.addr
  have HR := aq HP.out.lR
  have HT := aq HP.out.lT
  have HTR := aq HP.out.ne
  have HROW := aq HP.out.row
  have HFAR := aq HP.out.far
  have hsz3 := HP.out.below.size
  have hTab3 := TabW.below hTab HB3.out
  clear HP HB2 HI2 HE2 HB2b HO HS
  generalize partsOf s = pds at *
  go_loopg [18] pds.length (fun kq v18 wr => ∃ (i : Nat) (c : CI) (t : T3), v18 = .int .i64 (i : Int) ∧ i + kq = pds.length ∧ Aside0 (decGo k a0 (pds.drop i) c t = some (ee, cc)) ∧ Aside0 (CIAt wr w.heap.size c) ∧ Aside0 (PutTo w3 wr w.heap.size T) ∧ Aside0 ((∃ j, PD.mk j ∈ pds) → ToldIs wr T t.t0 t.t1 t.t2))
  case atStart => exact ⟨0, ⟨op, 0, 0, 0, 0, 0, 0, 0, 0, 0⟩, ⟨0, 0, 0⟩, rfl, by omega, ⟨by rw [List.drop_zero]; exact HD.out⟩, ⟨HI3.out⟩, ⟨PutTo.refl _ _ _⟩, HMK⟩
  case round =>
    clear HI3 HD
    obtain ⟨i, c, t, rfl, hik, HF, HI, HW, HTo⟩ := hrel
    have hIT : w.heap.size ≠ T := by have := HT.out; omega
    have hEr := (HW.out.block (w.heap.size + 1) (by omega) (by omega) (by have := HT.out; omega)).trans HE3.out
    have HE := aq hEr
    clear hEr
    cases gk with
    | zero =>
      obtain rfl : i = pds.length := by omega
      have hF := HF.out
      rw [List.drop_length] at hF
      obtain ⟨hF1, hF2⟩ : (0 : Int) = ee ∧ c = cc := by simpa [decGo] using hF
      subst hF1 hF2
      have hH := HH.out
      rw [if_pos rfl] at hH
      obtain ⟨b, hb, hH⟩ := Option.bind_eq_some_iff.mp hH
      have HIS := aq hb
      have hHH := aq hH
      clear hb hH hF HF HH HTo
      obtain ⟨d0, d1, d2, d3, d4, d5, d6, d7, d8, d9⟩ := cells10_ HI.out
      have hf := fun j => blk_frozen HI.out j
      have he0 := (blk_cell HE.out 0).trans rfl
      have hfe := blk_frozen HE.out 0
      go_wp2
      clear hf hfe he0 d0 d1 d2 d3 d4 d5 d6 d7 d8 d9
      have hbk := store_back w wr w.heap.size (w.heap.size + 1) c 0 HI.out HE.out (by omega) (HW.out.below w HB3.out (Nat.le_refl _) (by have := HT.out; omega)) (Nat.le_refl _) (by omega)
      refine leaves_cons (f := 78) (args := #[.pointer (some ⟨w.heap.size + 1, 0, none⟩), .pointer (some ⟨w.heap.size, 0, none⟩)]) (by simp) (by simp [go_sem]) ?_
      cases b with
      | true =>
        refine (idle_ok k (w.heap.size + 1) w.heap.size (by omega) c _ hbk.2.1 hbk.1 HIS.out (TabW.below hTab hbk.2.2)).mono ?_
        rintro e u' w8 ⟨rfl, rfl, hb8⟩
        have hI8 : CIAt w8 w.heap.size c := (hb8.block w.heap.size (Array.getElem?_eq_some_iff.1 hbk.1).1).trans hbk.1
        have hE8 : ErrAt w8 (w.heap.size + 1) 0 := (hb8.block (w.heap.size + 1) (Array.getElem?_eq_some_iff.1 hbk.2.1).1).trans hbk.2.1
        have hB8 := below_step hbk.2.2 hb8
        clear hbk hb8
        obtain ⟨d0, d1, d2, d3, d4, d5, d6, d7, d8, d9⟩ := cells10_ hI8
        have he0 : w8.cell? ⟨w.heap.size + 1, 0, none⟩ = some (.int .i64 0) := (blk_cell hE8 0).trans rfl
        have hH := hHH.out
        rw [if_pos rfl] at hH
        simp only [tup, Option.some.injEq, Prod.mk.injEq] at hH
        obtain ⟨rfl, rfl, rfl, rfl, rfl, rfl, rfl, rfl, rfl, rfl, rfl⟩ := hH
        simp [Leaves, settle, results, Tryz.results26, go_sem, d0, d1, d2, d3, d4, d5, d6, d7, d8, d9, he0]
        exact hB8
      | false =>
        refine (idle_no k (w.heap.size + 1) w.heap.size (by omega) c _ hbk.2.1 hbk.1 HIS.out (TabW.below hTab hbk.2.2)).mono ?_
        rintro e u' w8 ⟨rfl, rfl, hE8, hI8, hp8⟩
        have hB8 := hp8.below w hbk.2.2 (Nat.le_refl _) (by omega)
        have hH := hHH.out
        rw [if_neg (by decide)] at hH
        obtain ⟨d0, d1, d2, d3, d4, d5, d6, d7, d8, d9⟩ := cells10_ (show w8.heap[w.heap.size]? = some (.cells #[.int .i64 0, .int .i64 0, .int .i64 0, .int .i64 0, .int .i64 0, .int .i64 0, .int .u64 0, .int .i64 0, .int .i64 0, .int .i64 0] 51 (0, 0)) from hI8)
        have he0 : w8.cell? ⟨w.heap.size + 1, 0, none⟩ = some (.int .i64 11) := (blk_cell hE8 0).trans rfl
        simp only [tup, CI.zero, Option.some.injEq, Prod.mk.injEq] at hH
        obtain ⟨rfl, rfl, rfl, rfl, rfl, rfl, rfl, rfl, rfl, rfl, rfl⟩ := hH
        simp [Leaves, settle, results, Tryz.results26, go_sem, d0, d1, d2, d3, d4, d5, d6, d7, d8, d9, he0]
        exact hB8
    | succ kq =>
      have hi : i < pds.length := by omega
      have HIK := aq hik
      obtain ⟨p, hp⟩ : ∃ p, pds[i]? = some p := ⟨pds[i], List.getElem?_eq_getElem hi⟩
      have hdrop : pds.drop i = p :: pds.drop (i + 1) := by rw [List.drop_eq_getElem_cons hi]; congr 1; rw [List.getElem?_eq_getElem hi] at hp; exact Option.some.inj hp
      have hF := HF.out
      rw [hdrop] at hF
      clear hdrop HF
      obtain ⟨q, hq, hF⟩ := Option.bind_eq_some_iff.mp hF
      by_cases hq2 : ¬ q.2 = 0
      · rw [if_neg hq2] at hF; cases hF
      have hq2 := Decidable.not_not.mp hq2
      rw [if_pos hq2] at hF
      obtain ⟨q1, q2⟩ := q
      simp only at hq2 hF
      subst hq2
      obtain ⟨v, hv, hF⟩ := Option.bind_eq_some_iff.mp hF
      obtain ⟨⟨e1, c1, t1⟩, hput, hF⟩ := Option.bind_eq_some_iff.mp hF
      have hA := HN.out (by intro e; rw [e] at hi; simp at hi)
      subst hA
      obtain ⟨f, hf⟩ := HROW.out.get hp
      rw [show 0 + 5 * i = i * 5 by omega] at hf
      obtain ⟨c0, c1_, c2, c3, c4, hok⟩ := hf
      have hR := (HW.out.block R (World.block_lt_of_cell? w3 _ c0) (by have := HR.out; omega) (Ne.symm HTR.out))
      replace c0 := (World.cell?_of_block (w := w3) hR).trans c0
      replace c1_ := (World.cell?_of_block (w := w3) hR).trans c1_
      replace c2 := (World.cell?_of_block (w := w3) hR).trans c2
      replace c3 := (World.cell?_of_block (w := w3) hR).trans c3
      replace c4 := (World.cell?_of_block (w := w3) hR).trans c4
      have hpv : PutV wr T (w.heap.size + 2) p (.func (.func f.pf) #[] f.pc) := hok.put.move (fun B h1 h2 h3 => HW.out.block B h2 (by omega) h3) (HFAR.out p (List.mem_of_getElem? hp))
      have hTo : ∀ j, p = .mk j → ToldIs wr T t.t0 t.t1 t.t2 := fun j e => HTo.out ⟨j, e ▸ List.mem_of_getElem? hp⟩
      have HPV := aq hpv
      have HTo1 := aq hTo
      have HV := aq hv
      have HPUT := aq hput
      have HF := aq hF
      have HQ := aq hq
      have hent := put_enters hpv
      have hform := put_form hpv
      clear hok hR hTo hv hput hF hq hpv hp
      obtain ⟨fg, fgc, ff, fc⟩ := f
      generalize p.sg_ = sg at *
      simp only at hform hent
      cases sg with
      | true =>
        have hv := HV.out
        rw [if_pos rfl] at hv
        obtain ⟨⟨s1, s2⟩, hs, hv⟩ := Option.bind_eq_some_iff.mp hv
        simp only at hv
        by_cases h0 : ¬ s2 = 0
        · rw [if_neg h0] at hv; cases hv
        have h0 := Decidable.not_not.mp h0
        rw [if_pos h0] at hv
        subst h0
        obtain rfl := Option.some.inj hv
        have HSG := aq hs
        clear hs hv
        rcases hform with rfl | ⟨g1, rfl⟩ | ⟨g1, g2, rfl⟩
        all_goals
          go_wp2_with (first | (go_at_call 81; refine (bits_Field.calls _ _ _ _ _ _ HQ.out).mono ?_; rintro e w5 ⟨rfl, hd⟩; obtain ⟨nd, rfl⟩ := hd.out; clear hd) | (go_at_call 82; refine (code_must.ok _).mono ?_; rintro e w6 ⟨rfl, rfl⟩) | (go_at_call 83; refine (bits_Signed.calls _ _ _ _ _ _ HSG.out).mono ?_; rintro e w7 ⟨rfl, hd⟩; obtain ⟨ne, rfl⟩ := hd.out; clear hd))
          by_cases he : e1 = 0
          · subst he
            have hF := HF.out
            rw [if_pos rfl] at hF
            have HF2 := aq hF
            clear hF
            refine (put_ok_at k p ff _ _ c c1 t t1 _ wr _ w.heap.size T (w.heap.size + 2) HPV.out HI.out hIT HTo1.out HPUT.out rfl (by repeat (first | exact Below.refl _ _ | apply pw_below_drewN | apply below_drew1 | apply below_drew | apply below_alloc))).mono ?_
            rintro e w9 ⟨rfl, h1, h2, h3⟩
            have HI9 := aq h2
            have HP9 := aq h1
            have HT9 := aq h3
            clear h1 h2 h3
            go_wp2
            go_roundg kq
            case measure => omega
            case rel => exact ⟨i + 1, c1, t1, by rw [show wrap64 ((i : Int) + 1) = ((i + 1 : Nat) : Int) by unfold wrap64; have h5 := HL5.out; have h6 := HIK.out; omega], by have := HIK.out; omega, HF2, HI9, ⟨HW.out.trans HP9.out⟩, ⟨fun hm => HT9.out (HTo.out hm)⟩⟩
          · have hF := HF.out
            rw [if_neg he] at hF
            simp only [Option.some.injEq, Prod.mk.injEq] at hF
            obtain ⟨rfl, rfl⟩ := hF
            have hH := HH.out
            rw [if_neg he] at hH
            refine (put_bad_at k p ff _ _ c c1 t t1 _ e1 wr _ w.heap.size T (w.heap.size + 2) HPV.out HI.out hIT HTo1.out HPUT.out he rfl (by repeat (first | exact Below.refl _ _ | apply pw_below_drewN | apply below_drew1 | apply below_drew | apply below_alloc))).mono ?_
            rintro e w9 ⟨rfl, h1, h2⟩
            have hlE := (Array.getElem?_eq_some_iff.1 HE.out).1
            have hE9 := (h1.block (w.heap.size + 1) hlE (by omega) (by have := HT.out; omega)).trans HE.out
            have hB9 := h1.below w (HW.out.below w HB3.out (Nat.le_refl _) (by have := HT.out; omega)) (Nat.le_refl _) (by have := HT.out; omega)
            refine leaves_cons (f := 78) (args := #[.pointer (some ⟨w.heap.size + 1, 0, none⟩), .pointer (some ⟨w.heap.size, 0, none⟩)]) (by simp) (by simp [go_sem]) ?_
            refine (catch_err (w.heap.size + 1) w.heap.size (by omega) e1 0 c1 [] _ hE9 h2).mono ?_
            rintro e u' w8 ⟨rfl, rfl, hE8, hI8, hp8⟩
            have hB8 := hp8.below w hB9 (Nat.le_refl _) (by omega)
            obtain ⟨d0, d1, d2, d3, d4, d5, d6, d7, d8, d9⟩ := cells10_ (show w8.heap[w.heap.size]? = some (.cells #[.int .i64 0, .int .i64 0, .int .i64 0, .int .i64 0, .int .i64 0, .int .i64 0, .int .u64 0, .int .i64 0, .int .i64 0, .int .i64 0] 51 (0, 0)) from hI8)
            have he0 : w8.cell? ⟨w.heap.size + 1, 0, none⟩ = some (.int .i64 11) := (blk_cell hE8 0).trans rfl
            simp only [tup, CI.zero, Option.some.injEq, Prod.mk.injEq] at hH
            obtain ⟨rfl, rfl, rfl, rfl, rfl, rfl, rfl, rfl, rfl, rfl, rfl⟩ := hH
            simp [Leaves, settle, results, Tryz.results26, go_sem, d0, d1, d2, d3, d4, d5, d6, d7, d8, d9, he0]
            exact hB8
      | false =>
        have hv := HV.out
        rw [if_neg (by decide)] at hv
        obtain rfl := Option.some.inj hv
        clear hv HV
        rcases hform with rfl | ⟨g1, rfl⟩ | ⟨g1, g2, rfl⟩
        all_goals
          go_wp2_with (first | (go_at_call 81; refine (bits_Field.calls _ _ _ _ _ _ HQ.out).mono ?_; rintro e w5 ⟨rfl, hd⟩; obtain ⟨nd, rfl⟩ := hd.out; clear hd) | (go_at_call 82; refine (code_must.ok _).mono ?_; rintro e w6 ⟨rfl, rfl⟩))
          by_cases he : e1 = 0
          · subst he
            have hF := HF.out
            rw [if_pos rfl] at hF
            have HF2 := aq hF
            clear hF
            refine (put_ok_at k p ff _ _ c c1 t t1 _ wr _ w.heap.size T (w.heap.size + 2) HPV.out HI.out hIT HTo1.out HPUT.out rfl (by repeat (first | exact Below.refl _ _ | apply pw_below_drewN | apply below_drew1 | apply below_drew | apply below_alloc))).mono ?_
            rintro e w9 ⟨rfl, h1, h2, h3⟩
            have HI9 := aq h2
            have HP9 := aq h1
            have HT9 := aq h3
            clear h1 h2 h3
            go_wp2
            go_roundg kq
            case measure => omega
            case rel => exact ⟨i + 1, c1, t1, by rw [show wrap64 ((i : Int) + 1) = ((i + 1 : Nat) : Int) by unfold wrap64; have h5 := HL5.out; have h6 := HIK.out; omega], by have := HIK.out; omega, HF2, HI9, ⟨HW.out.trans HP9.out⟩, ⟨fun hm => HT9.out (HTo.out hm)⟩⟩
          · have hF := HF.out
            rw [if_neg he] at hF
            simp only [Option.some.injEq, Prod.mk.injEq] at hF
            obtain ⟨rfl, rfl⟩ := hF
            have hH := HH.out
            rw [if_neg he] at hH
            refine (put_bad_at k p ff _ _ c c1 t t1 _ e1 wr _ w.heap.size T (w.heap.size + 2) HPV.out HI.out hIT HTo1.out HPUT.out he rfl (by repeat (first | exact Below.refl _ _ | apply pw_below_drewN | apply below_drew1 | apply below_drew | apply below_alloc))).mono ?_
            rintro e w9 ⟨rfl, h1, h2⟩
            have hlE := (Array.getElem?_eq_some_iff.1 HE.out).1
            have hE9 := (h1.block (w.heap.size + 1) hlE (by omega) (by have := HT.out; omega)).trans HE.out
            have hB9 := h1.below w (HW.out.below w HB3.out (Nat.le_refl _) (by have := HT.out; omega)) (Nat.le_refl _) (by have := HT.out; omega)
            refine leaves_cons (f := 78) (args := #[.pointer (some ⟨w.heap.size + 1, 0, none⟩), .pointer (some ⟨w.heap.size, 0, none⟩)]) (by simp) (by simp [go_sem]) ?_
            refine (catch_err (w.heap.size + 1) w.heap.size (by omega) e1 0 c1 [] _ hE9 h2).mono ?_
            rintro e u' w8 ⟨rfl, rfl, hE8, hI8, hp8⟩
            have hB8 := hp8.below w hB9 (Nat.le_refl _) (by omega)
            obtain ⟨d0, d1, d2, d3, d4, d5, d6, d7, d8, d9⟩ := cells10_ (show w8.heap[w.heap.size]? = some (.cells #[.int .i64 0, .int .i64 0, .int .i64 0, .int .i64 0, .int .i64 0, .int .i64 0, .int .u64 0, .int .i64 0, .int .i64 0, .int .i64 0] 51 (0, 0)) from hI8)
            have he0 : w8.cell? ⟨w.heap.size + 1, 0, none⟩ = some (.int .i64 11) := (blk_cell hE8 0).trans rfl
            simp only [tup, CI.zero, Option.some.injEq, Prod.mk.injEq] at hH
            obtain ⟨rfl, rfl, rfl, rfl, rfl, rfl, rfl, rfl, rfl, rfl, rfl⟩ := hH
            simp [Leaves, settle, results, Tryz.results26, go_sem, d0, d1, d2, d3, d4, d5, d6, d7, d8, d9, he0]
            exact hB8
end Go.Proofs.YtblnfngigdipcaaGreatDoor.P
namespace Go.Proofs.YtblnfngigdipcaaGreatDoor.M
open Go.RowKit Go.Proofs.YtblnfngigdipcaaGreatDoor.P Go.Proofs.YtblnfngigdipcaaGreatDoorW.PrintWords Go.Proofs.YtblnfngigdipcaaGreatDoorW.PrintLast Go.Proofs.YtblnfngigdipcaaGreatDoorW.PrintMore
set_option linter.unusedVariables false
set_option linter.unusedSimpArgs false
def valP (c : CI) (t : T3) : PD → Int
  | .d => c.d | .n => c.n | .m => c.m | .a => c.a | .sh => c.sh | .cond _ => c.cd
  | .imm _ _ b _ => c.im / b | .amt _ _ b => c.am / b | .lo => c.im % 4 | .hi => c.im / 4
  | .mk 0 => t.t0 | .mk 1 => t.t1 | .mk _ => t.t2
def fitP (p : PD) (v : Int) : Prop := if p.sg_ = true then -(2 ^ (p.n_.toNat - 1)) ≤ v ∧ v < 2 ^ (p.n_.toNat - 1) else 0 ≤ v ∧ v < 2 ^ p.n_.toNat
def encP (p : PD) (v : Int) : Int := if p.sg_ = true then v % 2 ^ p.n_.toNat else v
def getP (k : Nat) (p : PD) (c : CI) : Option Int := p.get k c.o c.d c.n c.m c.a c.im c.ms c.sh c.am c.cd
def sized (p : PD) : Prop := 1 ≤ p.n_ ∧ p.n_ ≤ 26 ∧ 0 ≤ p.at_ ∧ p.at_ + p.n_ ≤ 32
instance (p : PD) : Decidable (sized p) := by unfold sized; infer_instance
theorem sized_all : ∀ s : Fin 17, ∀ p, p ∈ partsOf ((s.val : Nat) : Int) → sized p := by decide +kernel
theorem pow26 (n : Nat) (h : n ≤ 26) : (2 : Int) ^ n ≤ 67108864 := pow_le n 26 h
theorem field_of (k : Nat) (hk : 100 ≤ k) (p : PD) (c : CI) (v : Int) (hs : sized p) (hg : getP k p c = some v) (hf : fitP p v) :
    p.fieldV k c.o c.d c.n c.m c.a c.im c.ms c.sh c.am c.cd = some (encP p v) := by
  obtain ⟨s1, s2, s3, s4⟩ := hs
  have hp := pow26 p.n_.toNat (by omega)
  have hq := pow26 (p.n_.toNat - 1) (by omega)
  unfold PD.fieldV
  unfold getP at hg
  rw [hg, Option.bind_some]
  unfold fitP at hf
  unfold encP
  by_cases hsg : p.sg_ = true
  · rw [if_pos hsg] at hf ⊢
    have e : packV v p.n_ = (v % 2 ^ p.n_.toNat, 0) := by
      unfold packV
      rw [if_pos (by omega), if_pos hf]
    rw [if_pos hsg, pack_spec k v p.n_ hk (by omega) (by omega) (by omega) (by omega), Option.bind_some, e, if_pos rfl]
  · rw [if_neg hsg] at hf ⊢
    rw [if_neg hsg]
    congr 1
    omega
def fldP (p : PD) (v : Int) : Fld := ⟨p.at_, p.n_, encP p v⟩
theorem fields_of (k : Nat) (hk : 100 ≤ k) (c : CI) (v : PD → Int) : ∀ ps : List PD, (∀ p, p ∈ ps → sized p) → (∀ p, p ∈ ps → getP k p c = some (v p) ∧ fitP p (v p)) →
    fieldsL k c.o c.d c.n c.m c.a c.im c.ms c.sh c.am c.cd ps = some (ps.map fun p => fldP p (v p))
  | [], _, _ => rfl
  | p :: ps, h1, h2 => by
    unfold fieldsL
    rw [field_of k hk p c (v p) (h1 p (List.mem_cons_self ..)) (h2 p (List.mem_cons_self ..)).1 (h2 p (List.mem_cons_self ..)).2, Option.bind_some,
      fields_of k hk c v ps (fun q hq => h1 q (List.mem_cons_of_mem _ hq)) (fun q hq => h2 q (List.mem_cons_of_mem _ hq)), Option.bind_some]
    rfl
theorem enc_lt (p : PD) (v : Int) (hs : sized p) (hf : fitP p v) : 0 ≤ encP p v ∧ encP p v < 2 ^ p.n_.toNat := by
  have hp := pow_pos p.n_.toNat
  unfold fitP at hf
  unfold encP
  by_cases hsg : p.sg_ = true
  · rw [if_pos hsg]
    exact ⟨Int.emod_nonneg _ (by omega), Int.emod_lt_of_pos _ hp⟩
  · rw [if_neg hsg] at hf ⊢
    exact hf
def rawP (w : Int) (p : PD) : Int := w / 2 ^ p.at_.toNat % 2 ^ p.n_.toNat
def readP (w : Int) (p : PD) : Int := if p.sg_ = true then (if rawP w p < 2 ^ (p.n_.toNat - 1) then rawP w p else rawP w p - 2 ^ p.n_.toNat) else rawP w p
def puts (k : Nat) (v : PD → Int) : List PD → CI → T3 → Option (Int × CI)
  | [], c, _ => some (0, c)
  | p :: ps, c, t => (p.put k c t (v p)).bind fun r => if r.1 = 0 then puts k v ps r.2.1 r.2.2 else some (r.1, r.2.1)
theorem two_pow_pred (n : Nat) (h : 1 ≤ n) : (2 : Int) ^ n = 2 * 2 ^ (n - 1) := by
  obtain ⟨m, rfl⟩ : ∃ m, n = m + 1 := ⟨n - 1, by omega⟩
  rw [Int.pow_succ, Nat.add_sub_cancel]; omega
theorem raw_lt (w : Int) (p : PD) : 0 ≤ rawP w p ∧ rawP w p < 2 ^ p.n_.toNat := by
  have hp := pow_pos p.n_.toNat
  exact ⟨Int.emod_nonneg _ (by omega), Int.emod_lt_of_pos _ hp⟩
theorem decGo_at (k : Nat) (hk : 100 ≤ k) (w : Int) (w0 : 0 ≤ w) (w1 : w < 4294967296) : ∀ (ps : List PD) (c : CI) (t : T3), (∀ p, p ∈ ps → sized p) → decGo k w ps c t = puts k (readP w) ps c t
  | [], _, _, _ => rfl
  | p :: ps, c, t, hs => by
    obtain ⟨s1, s2, s3, s4⟩ := hs p (List.mem_cons_self ..)
    have hp := pow26 p.n_.toNat (by omega)
    obtain ⟨r0, r1⟩ := raw_lt w p
    unfold decGo puts
    have ef : fieldV w p.at_ p.n_ = (rawP w p, 0) := by
      unfold fieldV
      rw [if_pos (by unfold okI; simp; omega)]
      rfl
    rw [field_spec w p.at_ p.n_ w0 w1, Option.bind_some, ef, if_pos rfl]
    have hv : (if p.sg_ = true then (bits_Signed.f k (rawP w p) p.n_).bind fun s => if s.2 = 0 then some s.1 else none else some (wrap64 (rawP w p))) = some (readP w p) := by
      unfold readP
      by_cases hsg : p.sg_ = true
      · have e : sgnV (rawP w p) p.n_ = (if rawP w p < 2 ^ (p.n_.toNat - 1) then rawP w p else rawP w p - 2 ^ p.n_.toNat, 0) := by
          unfold sgnV
          rw [if_pos (by omega), if_pos r1]
        rw [if_pos hsg, if_pos hsg, signed_spec k _ p.n_ hk r0 (by omega) (by omega) (by omega), Option.bind_some, e, if_pos rfl]
      · rw [if_neg hsg, if_neg hsg, wrap64_self _ (by omega) (by omega)]
    rw [hv, Option.bind_some]
    congr 1
    funext r
    rw [decGo_at k hk w w0 w1 ps r.2.1 r.2.2 (fun q hq => hs q (List.mem_cons_of_mem _ hq))]
theorem read_fit (w : Int) (p : PD) (hs : sized p) : fitP p (readP w p) ∧ encP p (readP w p) = rawP w p := by
  obtain ⟨s1, s2, s3, s4⟩ := hs
  obtain ⟨r0, r1⟩ := raw_lt w p
  have h2 := two_pow_pred p.n_.toNat (by omega)
  have hp := pow_pos (p.n_.toNat - 1)
  unfold fitP encP readP
  by_cases hsg : p.sg_ = true
  · simp only [if_pos hsg]
    by_cases hlt : rawP w p < 2 ^ (p.n_.toNat - 1)
    · rw [if_pos hlt]
      exact ⟨by omega, Int.emod_eq_of_lt r0 r1⟩
    · rw [if_neg hlt]
      refine ⟨by omega, ?_⟩
      rw [Int.sub_emod_right]
      exact Int.emod_eq_of_lt r0 r1
  · simp only [if_neg hsg]
    exact ⟨⟨r0, r1⟩, trivial⟩
theorem sh_0 : inst_sh 0 = (false, false, false, false, 0, 0, 0, 0, 0, 0, 0, false) := rfl
theorem sh_1 : inst_sh 1 = (true, false, false, false, 0, 65535, 1, 48, 16, 0, 0, false) := rfl
theorem sh_2 : inst_sh 2 = (true, true, false, false, 0, 4095, 1, 12, 12, 0, 0, true) := rfl
theorem sh_3 : inst_sh 3 = (true, true, false, false, 0, 0, 0, 0, 0, 0, 0, false) := rfl
theorem sh_4 : inst_sh 4 = (true, true, true, false, 0, 0, 0, 63, 1, 2, 0, false) := rfl
theorem sh_5 : inst_sh 5 = (true, true, true, false, 0, 0, 0, 63, 1, 3, 0, false) := rfl
theorem sh_6 : inst_sh 6 = (true, true, true, true, 0, 0, 0, 0, 0, 0, 0, false) := rfl
theorem sh_7 : inst_sh 7 = (true, true, false, false, 0, 32760, 8, 0, 0, 0, 0, true) := rfl
theorem sh_8 : inst_sh 8 = (true, true, false, false, 0, 4095, 1, 0, 0, 0, 0, true) := rfl
theorem sh_9 : inst_sh 9 = (true, false, false, false, (-1048576), 1048572, 4, 0, 0, 0, 0, false) := rfl
theorem sh_10 : inst_sh 10 = (true, false, false, false, (-1048576), 1048575, 1, 0, 0, 0, 0, false) := rfl
theorem sh_11 : inst_sh 11 = (false, false, false, false, (-134217728), 134217724, 4, 0, 0, 0, 0, false) := rfl
theorem sh_12 : inst_sh 12 = (false, false, false, false, (-1048576), 1048572, 4, 0, 0, 0, 13, false) := rfl
theorem sh_13 : inst_sh 13 = (false, true, false, false, 0, 0, 0, 0, 0, 0, 0, false) := rfl
theorem sh_14 : inst_sh 14 = (false, false, false, false, 0, 65535, 1, 0, 0, 0, 0, false) := rfl
theorem sh_15 : inst_sh 15 = (false, false, false, false, 0, 0, 0, 0, 0, 0, 0, false) := rfl
theorem sh_16 : inst_sh 16 = (true, true, true, false, 0, 0, 0, 0, 0, 0, 13, false) := rfl
def isB (c : CI) (mk : Bool) : Bool := okB c.o c.d c.n c.m c.a c.im c.ms c.sh c.am c.cd mk
theorem td (x b : Int) (h : x.tmod b = 0) : x.tdiv b = x / b := Int.tdiv_eq_ediv_of_dvd (Int.dvd_of_tmod_eq_zero h)
theorem and3 (x : Int) (h0 : -9223372036854775808 ≤ x) (h1 : x < 9223372036854775808) : Go.bits .and .i64 x 3 = x % 4 := by
  have h3 : (BitVec.ofInt 64 3).toNat = 2 ^ 2 - 1 := by decide
  have key : (BitVec.ofInt 64 x &&& BitVec.ofInt 64 3).toNat = (x % ((2 ^ 64 : Nat) : Int)).toNat % 2 ^ 2 := by
    rw [BitVec.toNat_and, BitVec.toNat_ofInt, h3, Nat.and_two_pow_sub_one_eq_mod]
  show IntKind.i64.wrap ((BitVec.ofInt 64 x &&& BitVec.ofInt 64 3).toNat : Nat) = x % 4
  rw [key, IntKind.wrap_i64]
  omega
theorem or4 (l h : Int) (h0 : 0 ≤ l) (h1 : l < 4) (h2 : -262144 ≤ h) (h3 : h < 262144) : Go.bits .or .i64 l (wrap64 (h * 4)) = l + 4 * h := by
  obtain ⟨L, rfl⟩ := Int.eq_ofNat_of_zero_le h0
  rw [wrap64_self _ (by omega) (by omega)]
  obtain ⟨H, hH⟩ : ∃ H : Nat, ((h * 4) % ((2 ^ 64 : Nat) : Int)).toNat = 2 ^ 2 * H := ⟨((h * 4) % ((2 ^ 64 : Nat) : Int)).toNat / 4, by omega⟩
  have key : (BitVec.ofInt 64 (L : Int) ||| BitVec.ofInt 64 (h * 4)).toNat = 2 ^ 2 * H + L := by
    rw [BitVec.toNat_or, BitVec.toNat_ofInt, BitVec.toNat_ofInt, hH, show (((L : Nat) : Int) % ((2 ^ 64 : Nat) : Int)).toNat = L by omega, Nat.or_comm, Nat.two_pow_add_eq_or_of_lt (by omega)]
  show IntKind.i64.wrap ((BitVec.ofInt 64 (L : Int) ||| BitVec.ofInt 64 (h * 4)).toNat : Nat) = _
  rw [key, IntKind.wrap_i64]
  omega
set_option maxHeartbeats 4000000 in
theorem fit_all (k : Nat) (c : CI) (mk : Bool) (t : T3) (h : isB c mk = true) (hm : shapeN c.o = 3 → 0 ≤ t.t0 ∧ t.t0 < 2 ∧ 0 ≤ t.t1 ∧ t.t1 < 64 ∧ 0 ≤ t.t2 ∧ t.t2 < 64 ∧ mask_Encode.f k c.ms = some (t.t0, t.t1, t.t2, 0)) :
    ∀ p, p ∈ partsOf ((shapeN c.o : Nat) : Int) → getP k p c = some (valP c t p) ∧ fitP p (valP c t p) := by
  obtain ⟨o, d, n, m, a, im, ms, sh, am, cd⟩ := c
  obtain ⟨t0, t1, t2⟩ := t
  simp only [isB, okB] at h hm ⊢
  have hle := shapeN_le o
  generalize shapeN o = s at *
  have hs : s = 0 ∨ s = 1 ∨ s = 2 ∨ s = 3 ∨ s = 4 ∨ s = 5 ∨ s = 6 ∨ s = 7 ∨ s = 8 ∨ s = 9 ∨ s = 10 ∨ s = 11 ∨ s = 12 ∨ s = 13 ∨ s = 14 ∨ s = 15 ∨ s = 16 := by omega
  rcases hs with rfl | rfl | rfl | rfl | rfl | rfl | rfl | rfl | rfl | rfl | rfl | rfl | rfl | rfl | rfl | rfl | rfl
  all_goals simp only [sh_0, sh_1, sh_2, sh_3, sh_4, sh_5, sh_6, sh_7, sh_8, sh_9, sh_10, sh_11, sh_12, sh_13, sh_14, sh_15, sh_16] at h
  all_goals simp [regB, stepB] at h
  all_goals (try obtain ⟨⟨⟨⟨⟨⟨⟨⟨hd, hn⟩, hm_⟩, ha⟩, hi⟩, hamt⟩, hsh⟩, hcd⟩, hms⟩ := h)
  all_goals (try replace hsh := of_decide_eq_true hsh)
  all_goals (try replace hcd := of_decide_eq_true hcd)
  all_goals intro p hp
  all_goals simp [partsOf] at hp
  all_goals (try simp at hm)
  all_goals (repeat' (rcases hp with hp | hp))
  all_goals (try subst hp)
  all_goals simp [getP, PD.get, valP, fitP, PD.n_, PD.sg_, wrap64]
  all_goals first
    | omega
    | (rw [td _ _ hamt.2.2]; omega)
    | (rw [td _ _ hi.2.2]; omega)
    | (rw [and3 _ (by omega) (by omega)]; omega)
    | (rw [hm.2.2.2.2.2.2]; simp; omega)
def rowP (v : PD → Int) (s : Nat) : List Fld := (partsOf (s : Int)).map fun p => fldP p (v p)
theorem scan_same : ∀ (L L' : List Fld) (t : Nat), L.map (fun f => (f.f0, f.f1)) = L'.map (fun f => (f.f0, f.f1)) → scan L t = scan L' t
  | [], [], _, _ => rfl
  | [], _ :: _, _, h => by simp at h
  | _ :: _, [], _, h => by simp at h
  | f :: l, g :: l', t, h => by
    simp only [List.map_cons, List.cons.injEq, Prod.mk.injEq] at h
    obtain ⟨⟨h0, h1⟩, h2⟩ := h
    unfold scan
    have e1 : okF f = okF g := by unfold okF; rw [h0, h1]
    have e2 : mskN f = mskN g := by unfold mskN; rw [h0, h1]
    rw [e1, e2, scan_same l l' _ h2]
theorem scan_fin : ∀ s : Fin 17, scan (onesL (partsOf ((s.val : Nat) : Int))) 0 = some (tL.getD s.val 0) := by decide +kernel
theorem scan_at (v : PD → Int) (s : Nat) (h : s ≤ 16) : scan (rowP v s) 0 = some (tL.getD s 0) := by
  rw [scan_same (rowP v s) (onesL (partsOf ((s : Nat) : Int))) 0 (by unfold rowP onesL fldP; rw [List.map_map, List.map_map]; rfl)]
  exact scan_fin ⟨s, by omega⟩
theorem row_small (v : PD → Int) (s : Nat) (h : s ≤ 16) (hf : ∀ p, p ∈ partsOf (s : Int) → fitP p (v p)) : (rowP v s).any bigF = false ∧ (∀ f, f ∈ rowP v s → good f) ∧ (rowP v s).length ≤ 40 := by
  refine ⟨?_, ?_, ?_⟩
  · rw [List.any_eq_false]
    intro f hm
    obtain ⟨p, hp, rfl⟩ := List.mem_map.1 hm
    have hs := sized_all ⟨s, by omega⟩ p hp
    obtain ⟨e0, e1⟩ := enc_lt p (v p) hs (hf p hp)
    have := cast_pow p.n_.toNat
    unfold bigF fldP
    simp only [decide_eq_true_eq]
    omega
  · intro f hm
    obtain ⟨p, hp, rfl⟩ := List.mem_map.1 hm
    have hs := sized_all ⟨s, by omega⟩ p hp
    obtain ⟨e0, e1⟩ := enc_lt p (v p) hs (hf p hp)
    obtain ⟨s1, s2, s3, s4⟩ := hs
    have := pow26 p.n_.toNat (by omega)
    unfold good fldP
    simp only
    omega
  · unfold rowP
    rw [List.length_map]
    have := parts_len (s : Int)
    omega
theorem over_at (k : Nat) (hk : 200 ≤ k) (b s : Nat) (v : PD → Int) (h : s ≤ 16) (hb : b < 4294967296) (hf : ∀ p, p ∈ partsOf (s : Int) → fitP p (v p)) :
    code_over.f k (b : Int) (rowP v s) = some ((b ||| orW (rowP v s) 0 : Nat) : Int) := by
  obtain ⟨h1, h2, h3⟩ := row_small v s h hf
  have hsc := scan_at v s h
  obtain ⟨-, hw, -, -⟩ := word_fold (rowP v s) 0 _ 0 hsc h1 (by decide) (by decide) (by simp)
  have e : wordV (rowP v s) = (((orW (rowP v s) 0 : Nat) : Int), 0) := by
    unfold wordV
    rw [hsc]
    simp only [h1, Bool.false_eq_true, if_false]
  unfold code_over.f
  rw [word_spec k _ hk h3 h2, Option.bind_some, e, if_pos rfl, u32_or_nat _ _ hb (by simpa using hw)]
def wordC (c : CI) (t : T3) : Nat := baseN c.o.toNat ||| orW (rowP (valP c t) (shapeN c.o)) 0
theorem o_of (c : CI) (mk : Bool) (h : isB c mk = true) : 1 ≤ c.o ∧ c.o ≤ 39 := by
  apply Classical.byContradiction
  intro hn
  have := (shapeN_zero c.o).2 hn
  simp [isB, okB, this] at h
theorem shape_shp (o : Int) (h1 : 1 ≤ o) (h2 : o ≤ 39) : shapeN o = shp o.toNat := by
  have := shapeN_at o.toNat (by omega) (by omega)
  rwa [show ((o.toNat : Nat) : Int) = o by omega] at this
def fits3 (t : T3) : Prop := 0 ≤ t.t0 ∧ t.t0 < 2 ∧ 0 ≤ t.t1 ∧ t.t1 < 64 ∧ 0 ≤ t.t2 ∧ t.t2 < 64
theorem enc_at (k : Nat) (hk : 200 ≤ k) (c : CI) (mk : Bool) (t : T3) (hi : CI.is k c = some true) (h : isB c mk = true) (hm : shapeN c.o = 3 → 0 ≤ t.t0 ∧ t.t0 < 2 ∧ 0 ≤ t.t1 ∧ t.t1 < 64 ∧ 0 ≤ t.t2 ∧ t.t2 < 64 ∧ mask_Encode.f k c.ms = some (t.t0, t.t1, t.t2, 0)) :
    code_Encode.f k c.o c.d c.n c.m c.a c.im c.ms c.sh c.am c.cd = some (((wordC c t : Nat) : Int), 0) ∧ wordC c t < 4294967296 ∧ has (wordC c t) c.o.toNat ∧ ∀ p, p ∈ partsOf ((shapeN c.o : Nat) : Int) → rawP (wordC c t) p = encP p (valP c t p) := by
  obtain ⟨o1, o2⟩ := o_of c mk h
  have hfit := fit_all k c mk t h hm
  have hf : ∀ p, p ∈ partsOf ((shapeN c.o : Nat) : Int) → fitP p (valP c t p) := fun p hp => (hfit p hp).2
  have hle := shapeN_le c.o
  obtain ⟨b1, b2, -, -⟩ := base_fin ⟨c.o.toNat, by omega⟩
  simp only at b1 b2
  have hsc := scan_at (valP c t) (shapeN c.o) hle
  obtain ⟨h1, h2, h3⟩ := row_small (valP c t) (shapeN c.o) hle hf
  have hsz : ∀ p, p ∈ partsOf ((shapeN c.o : Nat) : Int) → sized p := sized_all ⟨shapeN c.o, by omega⟩
  have hss := shape_shp c.o o1 o2
  obtain ⟨w1, w2, w3⟩ := word_has c.o.toNat (by omega) (by omega) (rowP (valP c t) (shapeN c.o)) (by rw [← hss]; exact hsc) h1
  refine ⟨?_, w1, w2, ?_⟩
  · unfold code_Encode.f
    unfold CI.is at hi
    rw [hi, Option.bind_some, if_pos rfl, shape_at, Option.bind_some, fields_of k (by omega) c (valP c t) _ hsz hfit, Option.bind_some, b1]
    have ho := over_at k hk (baseN c.o.toNat) (shapeN c.o) (valP c t) hle b2 hf
    unfold rowP at ho
    rw [ho, Option.bind_some, if_pos (by omega)]
    rfl
  · intro p hp
    have hx := w3 (fldP p (valP c t p)) (List.mem_map.2 ⟨p, hp, rfl⟩)
    obtain ⟨e0, e1⟩ := enc_lt p (valP c t p) (hsz p hp) (hf p hp)
    unfold fldP at hx
    simp only at hx
    unfold rawP wordC
    have hc : ∀ x a n : Nat, ((x : Nat) : Int) / 2 ^ a % 2 ^ n = ((x / 2 ^ a % 2 ^ n : Nat) : Int) := fun x a n => by simp
    rw [hc, hx]
    omega
theorem is_all (c : CI) (m0 : 0 ≤ c.ms) (m1 : c.ms < 18446744073709551616) : ∃ (mk : Bool) (t : T3), CI.is 1000 c = some (isB c mk) ∧
    (mk = true → 0 ≤ t.t0 ∧ t.t0 < 2 ∧ 0 ≤ t.t1 ∧ t.t1 < 64 ∧ 0 ≤ t.t2 ∧ t.t2 < 64 ∧ mask_Encode.f 1000 c.ms = some (t.t0, t.t1, t.t2, 0) ∧ mask_Decode.f 1000 t.t0 t.t1 t.t2 = some (c.ms, 0)) := by
  obtain ⟨v, hv⟩ := Int.eq_ofNat_of_zero_le m0
  have e64 : (2 : Nat) ^ 64 = 18446744073709551616 := by decide
  rcases MM.mask_there 998 v (by decide) (by omega) with ⟨a, b, d, h1, h2, h3, h4, h5, h6, h7, h8, h9⟩ | h1
  · refine ⟨true, ⟨a, b, d⟩, ?_, fun _ => ⟨h3, h4, h5, h6, h7, h8, ?_, ?_⟩⟩
    · unfold CI.is isB
      exact is_at 998 _ _ _ _ _ _ _ _ _ _ _ (by rw [hv]; exact h1)
    · rw [hv]; exact mask_Encode.mono _ _ _ (mask_Encode.mono _ _ _ h2)
    · rw [hv]; exact mask_Decode.mono _ _ _ _ _ (mask_Decode.mono _ _ _ _ _ h9)
  · refine ⟨false, ⟨0, 0, 0⟩, ?_, fun h => by cases h⟩
    unfold CI.is isB
    exact is_at 998 _ _ _ _ _ _ _ _ _ _ _ (by rw [hv]; exact h1)
def t3 (v : PD → Int) : T3 := ⟨v (.mk 0), v (.mk 1), v (.mk 2)⟩
set_option maxHeartbeats 4000000 in
theorem put_back (k : Nat) (o ms : Int) (s : Nat) (v : PD → Int) (hs : s ≤ 16) (hf : ∀ p, p ∈ partsOf (s : Int) → fitP p (v p)) (hm : s = 3 → mask_Decode.f k (v (.mk 0)) (v (.mk 1)) (v (.mk 2)) = some (ms, 0)) :
    ∃ c : CI, puts k v (partsOf (s : Int)) ⟨o, 0, 0, 0, 0, 0, 0, 0, 0, 0⟩ ⟨0, 0, 0⟩ = some (0, c) ∧ c.o = o ∧ (c.ms = if s = 3 then ms else 0) ∧ ∀ p, p ∈ partsOf (s : Int) → valP c (t3 v) p = v p := by
  have hs : s = 0 ∨ s = 1 ∨ s = 2 ∨ s = 3 ∨ s = 4 ∨ s = 5 ∨ s = 6 ∨ s = 7 ∨ s = 8 ∨ s = 9 ∨ s = 10 ∨ s = 11 ∨ s = 12 ∨ s = 13 ∨ s = 14 ∨ s = 15 ∨ s = 16 := by omega
  rcases hs with rfl | rfl | rfl | rfl | rfl | rfl | rfl | rfl | rfl | rfl | rfl | rfl | rfl | rfl | rfl | rfl | rfl
  all_goals simp [partsOf, fitP, PD.n_, PD.sg_] at hf
  all_goals (try simp at hm)
  all_goals simp [partsOf, puts, PD.put, valP, t3]
  all_goals (try rw [hm])
  all_goals first
    | omega
    | (rw [or4 _ _ (by omega) (by omega) (by omega) (by omega)]; omega)
    | (simp [wrap64]; done)
    | (simp [wrap64]; omega)
theorem put_fell (k : Nat) (o : Int) (v : PD → Int) (hm : mask_Decode.f k (v (.mk 0)) (v (.mk 1)) (v (.mk 2)) = some (0, 3)) :
    ∃ c : CI, puts k v (partsOf ((3 : Nat) : Int)) ⟨o, 0, 0, 0, 0, 0, 0, 0, 0, 0⟩ ⟨0, 0, 0⟩ = some (3, c) := by
  simp [partsOf, puts, PD.put]
  rw [hm]
  simp
theorem ones_big : ∀ s : Fin 17, (onesL (partsOf ((s.val : Nat) : Int))).any bigF = false := by decide +kernel
theorem word_ext (op : Nat) (o2 : op < 40) (V W : Nat) (hV : V < 4294967296) (hW : W < 4294967296) (h1 : has V op) (h2 : has W op) (hr : ∀ p, p ∈ partsOf ((shp op : Nat) : Int) → rawP (V : Int) p = rawP (W : Int) p) : V = W := by
  obtain ⟨-, -, -, b4⟩ := base_fin ⟨op, o2⟩
  simp only at b4
  have ht := tL_lt ⟨shp op, by omega⟩
  simp only at ht
  have hsc := scan_fin ⟨shp op, by omega⟩
  simp only at hsc
  have hsub := orW_sub (onesL (partsOf ((shp op : Nat) : Int))) 0 (tL.getD (shp op) 0) 0 hsc (ones_big ⟨shp op, by omega⟩) (by simp)
  obtain ⟨-, -, h3, -⟩ := hsub
  apply Nat.eq_of_testBit_eq
  intro i
  by_cases hi : i < 32
  · cases c : (tL.getD (shp op) 0).testBit i with
    | false =>
      have m1 := congrArg (fun x => Nat.testBit x i) h1
      have m2 := congrArg (fun x => Nat.testBit x i) h2
      simp only [Nat.testBit_and, mask_bit _ i ht hi, c, Bool.not_false, Bool.and_true] at m1 m2
      rw [m1, m2]
    | true =>
      rcases h3 i c with h | ⟨f, hf, h⟩
      · simp at h
      · obtain ⟨p, hp, rfl⟩ := List.mem_map.1 hf
        obtain ⟨s1, s2, s3, s4⟩ := sized_all ⟨shp op, by omega⟩ p hp
        have e := hr p hp
        rw [msk_bit, decide_eq_true_eq] at h
        simp only at h
        unfold rawP at e
        have hc : ∀ x a n : Nat, ((x : Nat) : Int) / 2 ^ a % 2 ^ n = ((x / 2 ^ a % 2 ^ n : Nat) : Int) := fun x a n => by simp
        rw [hc, hc] at e
        have e' := congrArg (fun x => Nat.testBit x (i - p.at_.toNat)) (Int.ofNat.inj e)
        simp only [Nat.testBit_mod_two_pow, Nat.testBit_div_two_pow] at e'
        have hd : i - p.at_.toNat < p.n_.toNat := by omega
        have hadd : i - p.at_.toNat + p.at_.toNat = i := by omega
        simpa [hd, hadd] using e'
  · have hz : ∀ x : Nat, x < 4294967296 → x.testBit i = false := fun x hx => Nat.testBit_lt_two_pow (Nat.lt_of_lt_of_le (show x < 2 ^ 32 by omega) (Nat.pow_le_pow_right (by decide) (by omega)))
    rw [hz V hV, hz W hW]
theorem raw_of_fit (W : Int) (s : Nat) (hs : s ≤ 16) (p : PD) (hp : p ∈ partsOf ((s : Nat) : Int)) : fitP p (readP W p) ∧ encP p (readP W p) = rawP W p :=
  read_fit W p (sized_all ⟨s, by omega⟩ p hp)
theorem back_all (W : Nat) (hW : W < 4294967296) : code_Decode.f 1000 (W : Int) = some (tup CI.zero 11) ∨
    (∃ c : CI, code_Decode.f 1000 (W : Int) = some (tup c 0) ∧ CI.is 1000 c = some true ∧ code_Encode.f 1000 c.o c.d c.n c.m c.a c.im c.ms c.sh c.am c.cd = some ((W : Int), 0) ∧ code_Opcode.f 1000 (W : Int) = some c.o ∧ 0 ≤ c.ms ∧ c.ms < 18446744073709551616) := by
  have hop := op_at 1000 (by decide) W hW
  have hof := of_opF W 40 0 rfl
  generalize opF W 40 0 = op at hop hof
  have hle := shapeN_le ((op : Nat) : Int)
  have hsz : ∀ p, p ∈ partsOf ((shapeN ((op : Nat) : Int) : Nat) : Int) → sized p := sized_all ⟨shapeN ((op : Nat) : Int), by omega⟩
  have hfit := raw_of_fit (W : Int) (shapeN ((op : Nat) : Int)) hle
  have hdec : ∀ r, puts 1000 (readP (W : Int)) (partsOf ((shapeN ((op : Nat) : Int) : Nat) : Int)) ⟨(op : Int), 0, 0, 0, 0, 0, 0, 0, 0, 0⟩ ⟨0, 0, 0⟩ = some r →
      code_Decode.f 1000 (W : Int) = if r.1 = 0 then (r.2.is 1000).bind fun b => if b = true then some (tup r.2 0) else some (tup CI.zero 11) else some (tup CI.zero 11) := by
    intro r hr
    unfold code_Decode.f
    rw [hop, Option.bind_some, shape_at, Option.bind_some, decGo_at 1000 (by omega) W (by omega) (by omega) _ _ _ hsz, hr, Option.bind_some]
  have key : (∃ e c, e ≠ 0 ∧ puts 1000 (readP (W : Int)) (partsOf ((shapeN ((op : Nat) : Int) : Nat) : Int)) ⟨(op : Int), 0, 0, 0, 0, 0, 0, 0, 0, 0⟩ ⟨0, 0, 0⟩ = some (e, c)) ∨
      (∃ c : CI, puts 1000 (readP (W : Int)) (partsOf ((shapeN ((op : Nat) : Int) : Nat) : Int)) ⟨(op : Int), 0, 0, 0, 0, 0, 0, 0, 0, 0⟩ ⟨0, 0, 0⟩ = some (0, c) ∧ c.o = (op : Int) ∧ 0 ≤ c.ms ∧ c.ms < 18446744073709551616 ∧ (∀ p, p ∈ partsOf ((shapeN ((op : Nat) : Int) : Nat) : Int) → valP c (t3 (readP (W : Int))) p = readP (W : Int) p) ∧
        (shapeN ((op : Nat) : Int) = 3 → fits3 (t3 (readP (W : Int))) ∧ mask_Encode.f 1000 c.ms = some ((t3 (readP (W : Int))).t0, (t3 (readP (W : Int))).t1, (t3 (readP (W : Int))).t2, 0))) := by
    by_cases h3 : shapeN ((op : Nat) : Int) = 3
    · rw [h3] at hfit ⊢
      obtain ⟨f0, -⟩ := hfit (.mk 0) (by simp [partsOf])
      obtain ⟨f1, -⟩ := hfit (.mk 1) (by simp [partsOf])
      obtain ⟨f2, -⟩ := hfit (.mk 2) (by simp [partsOf])
      simp [fitP, PD.n_, PD.sg_] at f0 f1 f2
      obtain ⟨a, ha⟩ := Int.eq_ofNat_of_zero_le f0.1
      obtain ⟨b, hb⟩ := Int.eq_ofNat_of_zero_le f1.1
      obtain ⟨d, hd⟩ := Int.eq_ofNat_of_zero_le f2.1
      rcases MM.mask_here 1000 a b d (by decide) (by omega) (by omega) (by omega) with ⟨v, hv, h1, h2⟩ | h1
      · right
        rw [← ha, ← hb, ← hd] at h1 h2
        obtain ⟨c, c1, c2, c3, c4⟩ := put_back 1000 (op : Int) (v : Int) 3 (readP (W : Int)) (by decide) (fun p hp => (hfit p hp).1) (fun _ => h1)
        have e64 : (2 : Nat) ^ 64 = 18446744073709551616 := by decide
        rw [if_pos rfl] at c3
        refine ⟨c, c1, c2, by omega, by omega, c4, fun _ => ⟨?_, ?_⟩⟩
        · unfold fits3 t3
          simp only
          omega
        · rw [c3]; exact h2
      · left
        rw [← ha, ← hb, ← hd] at h1
        obtain ⟨c, hc⟩ := put_fell 1000 (op : Int) (readP (W : Int)) h1
        exact ⟨3, c, by decide, hc⟩
    · right
      obtain ⟨c, c1, c2, c3, c4⟩ := put_back 1000 (op : Int) 0 _ (readP (W : Int)) hle (fun p hp => (hfit p hp).1) (fun e => absurd e h3)
      rw [if_neg h3] at c3
      exact ⟨c, c1, c2, by omega, by omega, c4, fun e => absurd e h3⟩
  rcases key with ⟨e, c, he, hp⟩ | ⟨c, hp, ho, m0, m1, hv, ht⟩
  · left
    rw [hdec _ hp, if_neg he]
  · have hd := hdec _ hp
    rw [if_pos rfl] at hd
    obtain ⟨mk, t, hi, hm⟩ := is_all c m0 m1
    simp only [hi, Option.bind_some] at hd
    cases hb : isB c mk with
    | false =>
      rw [hb, if_neg (by decide)] at hd
      exact .inl hd
    | true =>
      rw [hb, if_pos rfl] at hd
      rw [hb] at hi
      right
      obtain ⟨o1, o2⟩ := o_of c mk hb
      obtain ⟨p1, p2, p3⟩ := hof (by omega)
      rw [← ho] at ht hv hfit
      obtain ⟨e1, e2, e3, e4⟩ := enc_at 1000 (by decide) c mk (t3 (readP (W : Int))) hi hb (fun e => by
        obtain ⟨g1, g2⟩ := ht e
        obtain ⟨g3, g4, g5, g6, g7, g8⟩ := g1
        exact ⟨g3, g4, g5, g6, g7, g8, g2⟩)
      have hop2 : c.o.toNat = op := by omega
      have hsh := shape_shp c.o o1 o2
      have hWW : wordC c (t3 (readP (W : Int))) = W := by
        refine word_ext op p2 _ _ e2 hW (hop2 ▸ e3) p3 (fun p hpp => ?_)
        rw [← hop2, ← hsh] at hpp
        rw [e4 p hpp, hv p hpp, (hfit p hpp).2]
      refine ⟨c, hd, hi, ?_, ?_, m0, m1⟩
      · rw [e1, hWW]
      · rw [hop, ho]
end Go.Proofs.YtblnfngigdipcaaGreatDoor.M
namespace Go.Proofs.YtblnfngigdipcaaGreatDoor.P
open Go.RowKit Go.Proofs.YtblnfngigdipcaaGreatDoorW.PrintWords Go.Proofs.YtblnfngigdipcaaGreatDoorW.PrintLast Go.Proofs.YtblnfngigdipcaaGreatDoorW.PrintMore
attribute [local go_sem] max2_int min2_int max_two min_two max_three min_three max_four min_four
set_option linter.unusedVariables false
set_option linter.unusedSimpArgs false
def cleatref07_Bytes.l0 : Nat → Int → Int → ByteArray → Int → Option (ByteArray)
 | 0, _, _, _, _ => none
 | k + 1, x0, x1, x5, x6 => if x6 < x1 then ((some (([(Int.tmod x0 256) % 256] : List Int) : List Int)).bind fun y391 => (if x5.size + (strOfNums y391).size ≤ 9223372036854775807 then (cleatref07_Bytes.l0 k (IntKind.u64.wrap (Int.tdiv x0 256)) x1 (x5 ++ (strOfNums y391)) (wrap64 (x6 + 1))) else (none))) else (some x5)
def cleatref07_Bytes.f (k : Nat) (a0 : Int) (a1 : Int) : Option (ByteArray) := cleatref07_Bytes.l0 k a0 a1 (⟨#[]⟩ : ByteArray) 0
set_option maxHeartbeats 8000000 in
set_option maxRecDepth 100000 in
theorem cleatref07_Bytes.calls (k : Nat) (a0 : Int) (a1 : Int) (r : ByteArray) (w : World) (h : cleatref07_Bytes.f k a0 a1 = some r) :
    Calls Tryz.prog 51 #[.int .u64 a0, .int .i64 a1] w fun e w' => e = .returned (.string r) ∧ Below w.heap.size w w' := by
 have HB := aq (Below.refl w.heap.size w)
 have H : (cleatref07_Bytes.l0 k a0 a1 (⟨#[]⟩ : ByteArray) 0) = some r := h
 clear h
 have H' := aq H
 clear H
 go_enter Tryz.func51, Tryz.ntmps51
 go_wp2
 go_loopg [0, 5, 6] k (fun kq v0 v5 v6 w' => ∃ (x0_1 : Int) (x5_1 : ByteArray) (x6_1 : Int), v0 = .int .u64 x0_1 ∧ v5 = .string x5_1 ∧ v6 = .int .i64 x6_1 ∧ Aside0 (cleatref07_Bytes.l0 kq x0_1 a1 x5_1 x6_1 = some r) ∧ Aside0 (kq ≤ k) ∧ Aside0 (Below w.heap.size w w'))
 case atStart => exact ⟨(a0), ((⟨#[]⟩ : ByteArray)), (0), (by first | rfl | (simp; done) | (simp [*]; done)), (by first | rfl | (simp; done) | (simp [*]; done)), (by first | rfl | (simp; done) | (simp [*]; done)), H', ⟨Nat.le_refl _⟩, ⟨by repeat (first | (with_reducible first | exact HB.out | apply below_alloc | apply pw_below_drewN | apply below_drew1) | exact HB.out)⟩⟩
 case round =>
  clear H'
  try clear p2
  obtain ⟨x0_1, x5_1, x6_1, rfl, rfl, rfl, HA, HK1, HB⟩ := hrel
  cases gk with
  | zero => exact absurd HA.out (by simp [cleatref07_Bytes.l0])
  | succ k1 =>
   have H := HA.out
   clear HA
   simp only [cleatref07_Bytes.l0] at H
   by_cases c3 : x6_1 < a1
   ·
    rw [if_pos c3] at H
    have c3b0 : decide (x6_1 < a1) = true := decide_eq_true c3
    clear c3
    obtain ⟨y391, hy391⟩ : ∃ y_ : List Int, y_ = (([(Int.tmod x0_1 256) % 256] : List Int)) := ⟨_, rfl⟩
    replace H : (if x5_1.size + (strOfNums y391).size ≤ 9223372036854775807 then (cleatref07_Bytes.l0 k1 (IntKind.u64.wrap (Int.tdiv x0_1 256)) a1 (x5_1 ++ (strOfNums y391)) (wrap64 (x6_1 + 1))) else (none)) = some r := by first | (rw [hy391]; with_reducible exact H) | (have H2_ := (Option.bind_some _ _).symm.trans H; rw [hy391]; with_reducible exact H2_) | (have H2_ := (Option.bind_some _ _).symm.trans H; with_reducible exact H2_) | with_reducible exact H | (rw [hy391]; exact H) | exact H
    have Ny391 := aq hy391
    clear hy391
    by_cases c4 : x5_1.size + (strOfNums y391).size ≤ 9223372036854775807
    ·
     rw [if_pos c4] at H
     have c4b0 := eq_true c4
     have c4b1 : decide (x5_1.size + (strOfNums y391).size ≤ 9223372036854775807) = true := decide_eq_true c4
     try have c4b2 : (9223372036854775807 < x5_1.size + (strOfNums y391).size) = False := eq_false (Nat.not_lt.2 c4)
     have H' := aq H
     clear H
     go_wp2_with (first | ((with_reducible refine gate_dst (N := 16) rfl ?_); refine Kd.R_lit (Kd.int .u8) _ 5 ?hg (N := 16) ?hd (xs := ([(Int.tmod x0_1 256) % 256] : List Int)) (inner := [.int .u8 ((Int.tmod x0_1 256) % 256)]) (ok := fun _ => True) (okp := fun _ => True) ?hr ?hp (fun _ hk => hk) trivial (Below.refl _ _) (Nat.le_refl _) (by simp) ?_; (case hd => rfl); (case hg => rfl); (case hr => first | (go_simp; done) | (go_simp; rfl)); (case hp => exact (Reps.one (show Kd.M (Kd.int .u8) _ _ _ ((Int.tmod x0_1 256) % 256) [.int .u8 ((Int.tmod x0_1 256) % 256)] from rfl) (Reps.none _ _))); intro v392 w5 ho6 hb hg_ hnew_; clear hg_ hnew_; (first | rw [← Ny391.out] at ho6 | (simp only [Int.reduceToNat] at ho6; rw [← Ny391.out] at ho6)); have n0_ := aq (Kd.R_lower ho6 (below_size (by repeat (first | (with_reducible first | exact HB.out | apply below_alloc | apply pw_below_drewN | apply below_drew1) | exact HB.out)))); have n1_ := aq (below_step (by repeat (first | (with_reducible first | exact HB.out | apply below_alloc | apply pw_below_drewN | apply below_drew1) | exact HB.out)) hb); clear HB; have HO393 := n0_; have HB := n1_; clear n0_ n1_; clear hb ho6; have hcv7 := own_string (P := Tryz.prog) Tryz.underlying93 Tryz.underlying5 Tryz.underlying9 (Kd.own_of_R HO393.out)))
     go_roundg k1
     case measure => have := HK1.out; omega
     case rel => exact ⟨(IntKind.u64.wrap (Int.tdiv x0_1 256)), (x5_1 ++ (strOfNums y391)), (wrap64 (x6_1 + 1)), (by first | rfl | (simp; done) | (simp [*]; done)), (by first | rfl | (simp; done) | (simp [*]; done)), (by first | rfl | (simp; done) | (simp [*]; done)), H', ⟨by have := HK1.out; omega⟩, ⟨by repeat (first | (with_reducible first | exact HB.out | apply below_alloc | apply pw_below_drewN | apply below_drew1) | exact HB.out)⟩⟩
    ·
     rw [if_neg c4] at H
     exact absurd H (by simp)
   ·
    rw [if_neg c3] at H
    have c3b0 : decide (x6_1 < a1) = false := decide_eq_false c3
    clear c3
    obtain rfl := Option.some.inj H
    go_wp2
    go_ret
    exact ⟨by first | rfl | (simp [errW_none, errW_some] <;> rfl) | (simp [*, errW_none, errW_some] <;> rfl), by repeat (first | (with_reducible first | exact HB.out | apply below_alloc | apply pw_below_drewN | apply below_drew1) | exact HB.out)⟩
def cleatlaw08_put.l0 : Nat → List Int → ByteArray → Int → Option (ByteArray)
 | 0, _, _, _ => none
 | k + 1, x0, x3, x4 => if x4 < (x0.length : Int) then (if 0 ≤ x4 then ((cleatref07_Bytes.f k (IntKind.u64.wrap (rd x0 x4)) 4).bind fun t207 => (if x3.size + t207.size ≤ 9223372036854775807 then (cleatlaw08_put.l0 k x0 (x3 ++ t207) (wrap64 (x4 + 1))) else (none))) else (none)) else (some x3)
def cleatlaw08_put.f (k : Nat) (l0 : List Int) : Option (ByteArray) := cleatlaw08_put.l0 k l0 (⟨#[]⟩ : ByteArray) 0
set_option maxHeartbeats 8000000 in
set_option maxRecDepth 100000 in
theorem cleatlaw08_put.calls (k : Nat) (A0 : Option Addr) (c0 : Nat) (l0 : List Int) (r : ByteArray) (w : World) (hr0 : Kd.C (Kd.int .u32) w A0 l0.length l0) (hc0 : l0.length ≤ c0) (h : cleatlaw08_put.f k l0 = some r) :
    Calls Tryz.prog 70 #[.slice A0 l0.length c0] w fun e w' => e = .returned (.string r) ∧ Below w.heap.size w w' := by
 have HR0 := aq hr0
 have HC0 := aq hc0
 clear hr0 hc0
 have HB := aq (Below.refl w.heap.size w)
 have H : (cleatlaw08_put.l0 k l0 (⟨#[]⟩ : ByteArray) 0) = some r := h
 clear h
 have H' := aq H
 clear H
 go_enter Tryz.func70, Tryz.ntmps70
 go_wp2
 go_loopg [3, 4] k (fun kq v3 v4 w' => ∃ (x3_1 : ByteArray) (x4_1 : Int), v3 = .string x3_1 ∧ v4 = .int .i64 x4_1 ∧ Aside0 (cleatlaw08_put.l0 kq l0 x3_1 x4_1 = some r) ∧ Aside0 (kq ≤ k) ∧ Aside0 (Below w.heap.size w w'))
 case atStart => exact ⟨((⟨#[]⟩ : ByteArray)), (0), (by first | rfl | (simp; done) | (simp [*]; done)), (by first | rfl | (simp; done) | (simp [*]; done)), H', ⟨Nat.le_refl _⟩, ⟨by repeat (first | (with_reducible first | exact HB.out | apply below_alloc | apply pw_below_drewN | apply below_drew1) | exact HB.out)⟩⟩
 case round =>
  clear H'
  obtain ⟨x3_1, x4_1, rfl, rfl, HA, HK1, HB⟩ := hrel
  cases gk with
  | zero => exact absurd HA.out (by simp [cleatlaw08_put.l0])
  | succ k1 =>
   have H := HA.out
   clear HA
   simp only [cleatlaw08_put.l0] at H
   by_cases c2 : x4_1 < (l0.length : Int)
   ·
    rw [if_pos c2] at H
    have c2b0 : decide (x4_1 < (l0.length : Int)) = true := decide_eq_true c2
    clear c2
    by_cases c3 : 0 ≤ x4_1
    ·
     rw [if_pos c3] at H
     have c3b0 : decide (0 ≤ x4_1) = true := decide_eq_true c3
     clear c3
     replace H := Option.bind_eq_some_iff.mp H
     obtain ⟨t207, A40, H⟩ := H
     replace H : (if x3_1.size + t207.size ≤ 9223372036854775807 then (cleatlaw08_put.l0 k1 l0 (x3_1 ++ t207) (wrap64 (x4_1 + 1))) else (none)) = some r := H
     have A4 := aq A40
     clear A40
     by_cases c5 : x3_1.size + t207.size ≤ 9223372036854775807
     ·
      rw [if_pos c5] at H
      have c5b0 := eq_true c5
      have c5b1 : decide (x3_1.size + t207.size ≤ 9223372036854775807) = true := decide_eq_true c5
      try have c5b2 : (9223372036854775807 < x3_1.size + t207.size) = False := eq_false (Nat.not_lt.2 c5)
      have H' := aq H
      clear H
      have p206 : 0 ≤ (x4_1 : Int) := of_decide_eq_true (by first | (with_reducible assumption) | assumption)
      have q206 : x4_1 < (l0.length : Int) := of_decide_eq_true (by first | (with_reducible assumption) | assumption)
      obtain ⟨ad206, e206, hx206_0⟩ := Kd.at_int HR0.out x4_1 p206 q206
      cases e206
      replace hx206_0 := (HB.out.cell (World.block_lt_of_cell? w _ hx206_0)).trans hx206_0
      replace p206 := eq_true p206
      replace q206 := eq_true q206
      go_wp2_with (first | ((with_reducible refine gate_callee (f := 51) rfl ?_); refine goesL_ (some 17) rfl rfl Tryz.func51 (by kernel_rfl) rfl #[.int .u64 (IntKind.u64.wrap (rd l0 x4_1)), .int .i64 4] rfl (by (try simp only [List.map_toArray, List.map_cons, List.map_nil]); first | done | rfl | (simp only [List.length_drop, List.length_take]; rfl)) ?_; (with_reducible refine (cleatref07_Bytes.calls k1 (IntKind.u64.wrap (rd l0 x4_1)) 4 t207 _ A4.out).mono ?_); rintro e w6 ⟨rfl, hb⟩; refine ⟨_, rfl, ?_⟩; have n0_ := aq (below_step (by repeat (first | (with_reducible first | exact HB.out | apply below_alloc | apply pw_below_drewN | apply below_drew1) | exact HB.out)) hb); clear HB; have HB := n0_; clear n0_; (try clear hb); (try clear hb2); (try clear hk); (try clear hi)))
      go_roundg k1
      case measure => have := HK1.out; omega
      case rel => exact ⟨(x3_1 ++ t207), (wrap64 (x4_1 + 1)), (by first | rfl | (simp; done) | (simp [*]; done)), (by first | rfl | (simp; done) | (simp [*]; done)), H', ⟨by have := HK1.out; omega⟩, ⟨by repeat (first | (with_reducible first | exact HB.out | apply below_alloc | apply pw_below_drewN | apply below_drew1) | exact HB.out)⟩⟩
     ·
      rw [if_neg c5] at H
      exact absurd H (by simp)
    ·
     rw [if_neg c3] at H
     exact absurd H (by simp)
   ·
    rw [if_neg c2] at H
    have c2b0 : decide (x4_1 < (l0.length : Int)) = false := decide_eq_false c2
    clear c2
    obtain rfl := Option.some.inj H
    go_wp2
    go_ret
    exact ⟨by first | rfl | (simp [errW_none, errW_some] <;> rfl) | (simp [*, errW_none, errW_some] <;> rfl), by repeat (first | (with_reducible first | exact HB.out | apply below_alloc | apply pw_below_drewN | apply below_drew1) | exact HB.out)⟩
end Go.Proofs.YtblnfngigdipcaaGreatDoor.P
