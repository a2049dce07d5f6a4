/- Written for this claim by a program of this session: what the claim uses of lemmas and proved contracts of Go functions. -/
import Derived.Test.YtflojfcioojgbaaGreatDoorYAl8
import Derived.Defers
import Derived.Recover
namespace Go.Proofs.YtflojfcioojgbaaGreatDoor.P
open Go.RowKit Go.Proofs.YtflojfcioojgbaaGreatDoorW.PrintWords Go.Proofs.YtflojfcioojgbaaGreatDoorW.PrintLast Go.Proofs.YtflojfcioojgbaaGreatDoorW.PrintMore
attribute [local go_sem] max2_int min2_int max_two min_two max_three min_three max_four min_four
set_option linter.unusedVariables false
set_option linter.unusedSimpArgs false
structure CI where
  o : Int
  d : Int
  n : Int
  m : Int
  a : Int
  im : Int
  ms : Int
  sh : Int
  am : Int
  cd : Int
def CI.v (c : CI) : Array Value := #[.int .i64 c.o, .int .i64 c.d, .int .i64 c.n, .int .i64 c.m, .int .i64 c.a, .int .i64 c.im, .int .u64 c.ms, .int .i64 c.sh, .int .i64 c.am, .int .i64 c.cd]
def CIAt (w : World) (I : Nat) (c : CI) : Prop := w.heap[I]? = some (.cells c.v 148 (0, 0))
structure T3 where
  t0 : Int
  t1 : Int
  t2 : Int
def PD.put (k : Nat) (p : PD) (c : CI) (t : T3) (v : Int) : Option (Int × CI × T3) :=
  match p with
  | .d => some (0, { c with d := v }, t) | .n => some (0, { c with n := v }, t) | .m => some (0, { c with m := v }, t) | .a => some (0, { c with a := v }, t)
  | .sh => some (0, { c with sh := v }, t) | .cond _ => some (0, { c with cd := v }, t) | .lo => some (0, { c with im := v }, t)
  | .hi => some (0, { c with im := Go.bits .or .i64 c.im (wrap64 (v * 4)) }, t)
  | .imm _ _ b _ => some (0, { c with im := wrap64 (b * v) }, t)
  | .amt _ _ b => some (0, { c with am := wrap64 (b * v) }, t)
  | .mk 0 => some (0, c, { t with t0 := v })
  | .mk 1 => some (0, c, { t with t1 := v })
  | .mk 2 => (mask_Decode.f k t.t0 t.t1 v).bind fun r => if r.2 = 0 then some (0, { c with ms := r.1 }, { t with t2 := v }) else some (r.2, c, { t with t2 := v })
  | .mk _ => none
structure PutTo (W W' : World) (I T : Nat) : Prop where
  block : ∀ b, b < W.heap.size → b ≠ I → b ≠ T → W'.heap[b]? = W.heap[b]?
  size : W.heap.size ≤ W'.heap.size
  below : ∀ w : World, Below w.heap.size w W → w.heap.size ≤ I → w.heap.size ≤ T → Below w.heap.size w W'
theorem PutTo.refl (W : World) (I T : Nat) : PutTo W W I T := ⟨fun _ _ _ _ => rfl, Nat.le_refl _, fun _ h _ _ => h⟩
theorem PutTo.set {W W' : World} {I T : Nat} (h : PutTo W W' I T) {g j : Nat} (hg : g = I ∨ g = T) (v : Value) : PutTo W (W'.setCell ⟨g, j, none⟩ v) I T where
  block b hb h1 h2 := (Below.heap_setCell W' ⟨g, j, none⟩ v b (by rcases hg with rfl | rfl <;> assumption)).trans (h.block b hb h1 h2)
  size := by have := h.size; simpa [World.setCell] using this
  below w hb hI hT := (h.below w hb hI hT).setCell (by rcases hg with rfl | rfl <;> assumption) _
theorem PutTo.step {W W1 W2 : World} {I T : Nat} (h : PutTo W W1 I T) (hb : Below W1.heap.size W1 W2) : PutTo W W2 I T where
  block b hl h1 h2 := (hb.block b (Nat.lt_of_lt_of_le hl h.size)).trans (h.block b hl h1 h2)
  size := Nat.le_trans h.size hb.size
  below w hw hI hT := below_step (h.below w hw hI hT) hb
theorem put_d (I T : Nat) (i0 i1 i2 i3 i4 i5 i6 i7 i8 i9 : Int) (v : Int) (W : World) (hI : W.heap[I]? = some (.cells #[.int .i64 i0, .int .i64 i1, .int .i64 i2, .int .i64 i3, .int .i64 i4, .int .i64 i5, .int .u64 i6, .int .i64 i7, .int .i64 i8, .int .i64 i9] 148 (0, 0))) : Calls Tryz.prog 194 #[.pointer (some ⟨I, 0, none⟩), .int .i64 v] W fun e W' => e = .returned (.tuple #[]) ∧ PutTo W W' I T ∧ W'.heap[I]? = some (.cells #[.int .i64 i0, .int .i64 v, .int .i64 i2, .int .i64 i3, .int .i64 i4, .int .i64 i5, .int .u64 i6, .int .i64 i7, .int .i64 i8, .int .i64 i9] 148 (0, 0)) ∧ (T ≠ I → T < W.heap.size → W'.heap[T]? = W.heap[T]?) := by
  obtain ⟨d0, d1, d2, d3, d4, d5, d6, d7, d8, d9⟩ := cells10_ hI
  have hf := fun j => blk_frozen hI j
  have HI := aq hI
  clear hI
  go_enter Tryz.func194, Tryz.ntmps194
  go_wp2
  go_end0
  exact ⟨rfl, (PutTo.refl W I T).set (.inl rfl) _, blk_set HI.out 1 _, fun hT _ => Below.heap_setCell W _ _ T hT⟩
theorem put_n (I T : Nat) (i0 i1 i2 i3 i4 i5 i6 i7 i8 i9 : Int) (v : Int) (W : World) (hI : W.heap[I]? = some (.cells #[.int .i64 i0, .int .i64 i1, .int .i64 i2, .int .i64 i3, .int .i64 i4, .int .i64 i5, .int .u64 i6, .int .i64 i7, .int .i64 i8, .int .i64 i9] 148 (0, 0))) : Calls Tryz.prog 200 #[.pointer (some ⟨I, 0, none⟩), .int .i64 v] W fun e W' => e = .returned (.tuple #[]) ∧ PutTo W W' I T ∧ W'.heap[I]? = some (.cells #[.int .i64 i0, .int .i64 i1, .int .i64 v, .int .i64 i3, .int .i64 i4, .int .i64 i5, .int .u64 i6, .int .i64 i7, .int .i64 i8, .int .i64 i9] 148 (0, 0)) ∧ (T ≠ I → T < W.heap.size → W'.heap[T]? = W.heap[T]?) := by
  obtain ⟨d0, d1, d2, d3, d4, d5, d6, d7, d8, d9⟩ := cells10_ hI
  have hf := fun j => blk_frozen hI j
  have HI := aq hI
  clear hI
  go_enter Tryz.func200, Tryz.ntmps200
  go_wp2
  go_end0
  exact ⟨rfl, (PutTo.refl W I T).set (.inl rfl) _, blk_set HI.out 2 _, fun hT _ => Below.heap_setCell W _ _ T hT⟩
theorem put_m (I T : Nat) (i0 i1 i2 i3 i4 i5 i6 i7 i8 i9 : Int) (v : Int) (W : World) (hI : W.heap[I]? = some (.cells #[.int .i64 i0, .int .i64 i1, .int .i64 i2, .int .i64 i3, .int .i64 i4, .int .i64 i5, .int .u64 i6, .int .i64 i7, .int .i64 i8, .int .i64 i9] 148 (0, 0))) : Calls Tryz.prog 208 #[.pointer (some ⟨I, 0, none⟩), .int .i64 v] W fun e W' => e = .returned (.tuple #[]) ∧ PutTo W W' I T ∧ W'.heap[I]? = some (.cells #[.int .i64 i0, .int .i64 i1, .int .i64 i2, .int .i64 v, .int .i64 i4, .int .i64 i5, .int .u64 i6, .int .i64 i7, .int .i64 i8, .int .i64 i9] 148 (0, 0)) ∧ (T ≠ I → T < W.heap.size → W'.heap[T]? = W.heap[T]?) := by
  obtain ⟨d0, d1, d2, d3, d4, d5, d6, d7, d8, d9⟩ := cells10_ hI
  have hf := fun j => blk_frozen hI j
  have HI := aq hI
  clear hI
  go_enter Tryz.func208, Tryz.ntmps208
  go_wp2
  go_end0
  exact ⟨rfl, (PutTo.refl W I T).set (.inl rfl) _, blk_set HI.out 3 _, fun hT _ => Below.heap_setCell W _ _ T hT⟩
theorem put_a (I T : Nat) (i0 i1 i2 i3 i4 i5 i6 i7 i8 i9 : Int) (v : Int) (W : World) (hI : W.heap[I]? = some (.cells #[.int .i64 i0, .int .i64 i1, .int .i64 i2, .int .i64 i3, .int .i64 i4, .int .i64 i5, .int .u64 i6, .int .i64 i7, .int .i64 i8, .int .i64 i9] 148 (0, 0))) : Calls Tryz.prog 212 #[.pointer (some ⟨I, 0, none⟩), .int .i64 v] W fun e W' => e = .returned (.tuple #[]) ∧ PutTo W W' I T ∧ W'.heap[I]? = some (.cells #[.int .i64 i0, .int .i64 i1, .int .i64 i2, .int .i64 i3, .int .i64 v, .int .i64 i5, .int .u64 i6, .int .i64 i7, .int .i64 i8, .int .i64 i9] 148 (0, 0)) ∧ (T ≠ I → T < W.heap.size → W'.heap[T]? = W.heap[T]?) := by
  obtain ⟨d0, d1, d2, d3, d4, d5, d6, d7, d8, d9⟩ := cells10_ hI
  have hf := fun j => blk_frozen hI j
  have HI := aq hI
  clear hI
  go_enter Tryz.func212, Tryz.ntmps212
  go_wp2
  go_end0
  exact ⟨rfl, (PutTo.refl W I T).set (.inl rfl) _, blk_set HI.out 4 _, fun hT _ => Below.heap_setCell W _ _ T hT⟩
theorem put_sh (I T : Nat) (i0 i1 i2 i3 i4 i5 i6 i7 i8 i9 : Int) (v : Int) (W : World) (hI : W.heap[I]? = some (.cells #[.int .i64 i0, .int .i64 i1, .int .i64 i2, .int .i64 i3, .int .i64 i4, .int .i64 i5, .int .u64 i6, .int .i64 i7, .int .i64 i8, .int .i64 i9] 148 (0, 0))) : Calls Tryz.prog 210 #[.pointer (some ⟨I, 0, none⟩), .int .i64 v] W fun e W' => e = .returned (.tuple #[]) ∧ PutTo W W' I T ∧ W'.heap[I]? = some (.cells #[.int .i64 i0, .int .i64 i1, .int .i64 i2, .int .i64 i3, .int .i64 i4, .int .i64 i5, .int .u64 i6, .int .i64 v, .int .i64 i8, .int .i64 i9] 148 (0, 0)) ∧ (T ≠ I → T < W.heap.size → W'.heap[T]? = W.heap[T]?) := by
  obtain ⟨d0, d1, d2, d3, d4, d5, d6, d7, d8, d9⟩ := cells10_ hI
  have hf := fun j => blk_frozen hI j
  have HI := aq hI
  clear hI
  go_enter Tryz.func210, Tryz.ntmps210
  go_wp2
  go_end0
  exact ⟨rfl, (PutTo.refl W I T).set (.inl rfl) _, blk_set HI.out 7 _, fun hT _ => Below.heap_setCell W _ _ T hT⟩
theorem put_cond (I T : Nat) (i0 i1 i2 i3 i4 i5 i6 i7 i8 i9 : Int) (v : Int) (W : World) (hI : W.heap[I]? = some (.cells #[.int .i64 i0, .int .i64 i1, .int .i64 i2, .int .i64 i3, .int .i64 i4, .int .i64 i5, .int .u64 i6, .int .i64 i7, .int .i64 i8, .int .i64 i9] 148 (0, 0))) : Calls Tryz.prog 218 #[.pointer (some ⟨I, 0, none⟩), .int .i64 v] W fun e W' => e = .returned (.tuple #[]) ∧ PutTo W W' I T ∧ W'.heap[I]? = some (.cells #[.int .i64 i0, .int .i64 i1, .int .i64 i2, .int .i64 i3, .int .i64 i4, .int .i64 i5, .int .u64 i6, .int .i64 i7, .int .i64 i8, .int .i64 v] 148 (0, 0)) ∧ (T ≠ I → T < W.heap.size → W'.heap[T]? = W.heap[T]?) := by
  obtain ⟨d0, d1, d2, d3, d4, d5, d6, d7, d8, d9⟩ := cells10_ hI
  have hf := fun j => blk_frozen hI j
  have HI := aq hI
  clear hI
  go_enter Tryz.func218, Tryz.ntmps218
  go_wp2
  go_end0
  exact ⟨rfl, (PutTo.refl W I T).set (.inl rfl) _, blk_set HI.out 9 _, fun hT _ => Below.heap_setCell W _ _ T hT⟩
theorem put_lo (I T : Nat) (i0 i1 i2 i3 i4 i5 i6 i7 i8 i9 : Int) (v : Int) (W : World) (hI : W.heap[I]? = some (.cells #[.int .i64 i0, .int .i64 i1, .int .i64 i2, .int .i64 i3, .int .i64 i4, .int .i64 i5, .int .u64 i6, .int .i64 i7, .int .i64 i8, .int .i64 i9] 148 (0, 0))) : Calls Tryz.prog 214 #[.pointer (some ⟨I, 0, none⟩), .int .i64 v] W fun e W' => e = .returned (.tuple #[]) ∧ PutTo W W' I T ∧ W'.heap[I]? = some (.cells #[.int .i64 i0, .int .i64 i1, .int .i64 i2, .int .i64 i3, .int .i64 i4, .int .i64 v, .int .u64 i6, .int .i64 i7, .int .i64 i8, .int .i64 i9] 148 (0, 0)) ∧ (T ≠ I → T < W.heap.size → W'.heap[T]? = W.heap[T]?) := by
  obtain ⟨d0, d1, d2, d3, d4, d5, d6, d7, d8, d9⟩ := cells10_ hI
  have hf := fun j => blk_frozen hI j
  have HI := aq hI
  clear hI
  go_enter Tryz.func214, Tryz.ntmps214
  go_wp2
  go_end0
  exact ⟨rfl, (PutTo.refl W I T).set (.inl rfl) _, blk_set HI.out 5 _, fun hT _ => Below.heap_setCell W _ _ T hT⟩
theorem put_hi (I T : Nat) (i0 i1 i2 i3 i4 i5 i6 i7 i8 i9 : Int) (v : Int) (W : World) (hI : W.heap[I]? = some (.cells #[.int .i64 i0, .int .i64 i1, .int .i64 i2, .int .i64 i3, .int .i64 i4, .int .i64 i5, .int .u64 i6, .int .i64 i7, .int .i64 i8, .int .i64 i9] 148 (0, 0))) : Calls Tryz.prog 216 #[.pointer (some ⟨I, 0, none⟩), .int .i64 v] W fun e W' => e = .returned (.tuple #[]) ∧ PutTo W W' I T ∧ W'.heap[I]? = some (.cells #[.int .i64 i0, .int .i64 i1, .int .i64 i2, .int .i64 i3, .int .i64 i4, .int .i64 (Go.bits .or .i64 i5 (wrap64 (v * 4))), .int .u64 i6, .int .i64 i7, .int .i64 i8, .int .i64 i9] 148 (0, 0)) ∧ (T ≠ I → T < W.heap.size → W'.heap[T]? = W.heap[T]?) := by
  obtain ⟨d0, d1, d2, d3, d4, d5, d6, d7, d8, d9⟩ := cells10_ hI
  have hf := fun j => blk_frozen hI j
  have HI := aq hI
  clear hI
  go_enter Tryz.func216, Tryz.ntmps216
  go_wp2
  go_end0
  exact ⟨rfl, (PutTo.refl W I T).set (.inl rfl) _, blk_set HI.out 5 _, fun hT _ => Below.heap_setCell W _ _ T hT⟩
theorem put_imm (I T B : Nat) (b : Int) (i0 i1 i2 i3 i4 i5 i6 i7 i8 i9 : Int) (v : Int) (W : World) (hI : W.heap[I]? = some (.cells #[.int .i64 i0, .int .i64 i1, .int .i64 i2, .int .i64 i3, .int .i64 i4, .int .i64 i5, .int .u64 i6, .int .i64 i7, .int .i64 i8, .int .i64 i9] 148 (0, 0))) (hc : W.cell? ⟨B, 0, none⟩ = some (.int .i64 b)) : Calls Tryz.prog 196 #[.pointer (some ⟨I, 0, none⟩), .int .i64 v, .pointer (some ⟨B, 0, none⟩)] W fun e W' => e = .returned (.tuple #[]) ∧ PutTo W W' I T ∧ W'.heap[I]? = some (.cells #[.int .i64 i0, .int .i64 i1, .int .i64 i2, .int .i64 i3, .int .i64 i4, .int .i64 (wrap64 (b * v)), .int .u64 i6, .int .i64 i7, .int .i64 i8, .int .i64 i9] 148 (0, 0)) ∧ (T ≠ I → T < W.heap.size → W'.heap[T]? = W.heap[T]?) := by
  obtain ⟨d0, d1, d2, d3, d4, d5, d6, d7, d8, d9⟩ := cells10_ hI
  have hf := fun j => blk_frozen hI j
  have HI := aq hI
  clear hI
  go_enter Tryz.func196, Tryz.ntmps196
  go_wp2
  go_end0
  exact ⟨rfl, (PutTo.refl W I T).set (.inl rfl) _, blk_set HI.out 5 _, fun hT _ => Below.heap_setCell W _ _ T hT⟩
theorem put_amt (I T B : Nat) (b : Int) (i0 i1 i2 i3 i4 i5 i6 i7 i8 i9 : Int) (v : Int) (W : World) (hI : W.heap[I]? = some (.cells #[.int .i64 i0, .int .i64 i1, .int .i64 i2, .int .i64 i3, .int .i64 i4, .int .i64 i5, .int .u64 i6, .int .i64 i7, .int .i64 i8, .int .i64 i9] 148 (0, 0))) (hc : W.cell? ⟨B, 0, none⟩ = some (.int .i64 b)) : Calls Tryz.prog 198 #[.pointer (some ⟨I, 0, none⟩), .int .i64 v, .pointer (some ⟨B, 0, none⟩)] W fun e W' => e = .returned (.tuple #[]) ∧ PutTo W W' I T ∧ W'.heap[I]? = some (.cells #[.int .i64 i0, .int .i64 i1, .int .i64 i2, .int .i64 i3, .int .i64 i4, .int .i64 i5, .int .u64 i6, .int .i64 i7, .int .i64 (wrap64 (b * v)), .int .i64 i9] 148 (0, 0)) ∧ (T ≠ I → T < W.heap.size → W'.heap[T]? = W.heap[T]?) := by
  obtain ⟨d0, d1, d2, d3, d4, d5, d6, d7, d8, d9⟩ := cells10_ hI
  have hf := fun j => blk_frozen hI j
  have HI := aq hI
  clear hI
  go_enter Tryz.func198, Tryz.ntmps198
  go_wp2
  go_end0
  exact ⟨rfl, (PutTo.refl W I T).set (.inl rfl) _, blk_set HI.out 8 _, fun hT _ => Below.heap_setCell W _ _ T hT⟩
theorem put_mk0 (I T B : Nat) (i0 i1 i2 i3 i4 i5 i6 i7 i8 i9 : Int) (t0 t1 t2 v : Int) (W : World) (hI : W.heap[I]? = some (.cells #[.int .i64 i0, .int .i64 i1, .int .i64 i2, .int .i64 i3, .int .i64 i4, .int .i64 i5, .int .u64 i6, .int .i64 i7, .int .i64 i8, .int .i64 i9] 148 (0, 0))) (hne : I ≠ T) (hBT : B ≠ T) (hT : ToldIs W T t0 t1 t2) (hc : W.cell? ⟨B, 0, none⟩ = some (.int .i64 0)) : Calls Tryz.prog 205 #[.pointer (some ⟨I, 0, none⟩), .int .i64 v, .pointer (some ⟨T, 0, none⟩), .pointer (some ⟨B, 0, none⟩)] W fun e W' => e = .returned (.tuple #[]) ∧ PutTo W W' I T ∧ W'.heap[I]? = some (.cells #[.int .i64 i0, .int .i64 i1, .int .i64 i2, .int .i64 i3, .int .i64 i4, .int .i64 i5, .int .u64 i6, .int .i64 i7, .int .i64 i8, .int .i64 i9] 148 (0, 0)) ∧ ToldIs W' T v t1 t2 := by
  obtain ⟨e0, e1, e2⟩ := cells3_ hT
  have hf := fun j => blk_frozen hT j
  have HI := aq hI
  have HT := aq hT
  have hs0 : (W.setCell ⟨T, 0, none⟩ (.int .i64 v)).cell? ⟨B, 0, none⟩ = some (.int .i64 0) := (World.cell?_of_block (w := W) (Below.heap_setCell W ⟨T, 0, none⟩ _ B hBT)).trans hc
  clear hI hT
  go_enter Tryz.func205, Tryz.ntmps205
  go_wp2
  go_end0
  exact ⟨rfl, (PutTo.refl W I T).set (.inr rfl) _, (Below.heap_setCell W _ _ I hne).trans HI.out, blk_set HT.out 0 _⟩
theorem put_mk1 (I T B : Nat) (i0 i1 i2 i3 i4 i5 i6 i7 i8 i9 : Int) (t0 t1 t2 v : Int) (W : World) (hI : W.heap[I]? = some (.cells #[.int .i64 i0, .int .i64 i1, .int .i64 i2, .int .i64 i3, .int .i64 i4, .int .i64 i5, .int .u64 i6, .int .i64 i7, .int .i64 i8, .int .i64 i9] 148 (0, 0))) (hne : I ≠ T) (hBT : B ≠ T) (hT : ToldIs W T t0 t1 t2) (hc : W.cell? ⟨B, 0, none⟩ = some (.int .i64 1)) : Calls Tryz.prog 205 #[.pointer (some ⟨I, 0, none⟩), .int .i64 v, .pointer (some ⟨T, 0, none⟩), .pointer (some ⟨B, 0, none⟩)] W fun e W' => e = .returned (.tuple #[]) ∧ PutTo W W' I T ∧ W'.heap[I]? = some (.cells #[.int .i64 i0, .int .i64 i1, .int .i64 i2, .int .i64 i3, .int .i64 i4, .int .i64 i5, .int .u64 i6, .int .i64 i7, .int .i64 i8, .int .i64 i9] 148 (0, 0)) ∧ ToldIs W' T t0 v t2 := by
  obtain ⟨e0, e1, e2⟩ := cells3_ hT
  have hf := fun j => blk_frozen hT j
  have HI := aq hI
  have HT := aq hT
  have hs0 : (W.setCell ⟨T, 1, none⟩ (.int .i64 v)).cell? ⟨B, 0, none⟩ = some (.int .i64 1) := (World.cell?_of_block (w := W) (Below.heap_setCell W ⟨T, 1, none⟩ _ B hBT)).trans hc
  clear hI hT
  go_enter Tryz.func205, Tryz.ntmps205
  go_wp2
  go_end0
  exact ⟨rfl, (PutTo.refl W I T).set (.inr rfl) _, (Below.heap_setCell W _ _ I hne).trans HI.out, blk_set HT.out 1 _⟩
set_option maxHeartbeats 4000000 in
theorem put_mk2 (I T B k : Nat) (i0 i1 i2 i3 i4 i5 i6 i7 i8 i9 : Int) (t0 t1 t2 v m : Int) (W : World) (hI : W.heap[I]? = some (.cells #[.int .i64 i0, .int .i64 i1, .int .i64 i2, .int .i64 i3, .int .i64 i4, .int .i64 i5, .int .u64 i6, .int .i64 i7, .int .i64 i8, .int .i64 i9] 148 (0, 0))) (hne : I ≠ T) (hBT : B ≠ T) (hT : ToldIs W T t0 t1 t2) (hc : W.cell? ⟨B, 0, none⟩ = some (.int .i64 2)) (hd : mask_Decode.f k t0 t1 v = some (m, 0)) : Calls Tryz.prog 205 #[.pointer (some ⟨I, 0, none⟩), .int .i64 v, .pointer (some ⟨T, 0, none⟩), .pointer (some ⟨B, 0, none⟩)] W fun e W' => e = .returned (.tuple #[]) ∧ PutTo W W' I T ∧ W'.heap[I]? = some (.cells #[.int .i64 i0, .int .i64 i1, .int .i64 i2, .int .i64 i3, .int .i64 i4, .int .i64 i5, .int .u64 m, .int .i64 i7, .int .i64 i8, .int .i64 i9] 148 (0, 0)) ∧ ToldIs W' T t0 t1 v := by
  obtain ⟨e0, e1, e2⟩ := cells3_ hT
  have hf := fun j => blk_frozen hT j
  have HI := aq hI
  have HT := aq hT
  have HD := aq hd
  have hs0 : (W.setCell ⟨T, 2, none⟩ (.int .i64 v)).cell? ⟨B, 0, none⟩ = some (.int .i64 2) := (World.cell?_of_block (w := W) (Below.heap_setCell W ⟨T, 2, none⟩ _ B hBT)).trans hc
  obtain ⟨s0, s1, s2⟩ := cells3_ (blk_set hT 2 (.int .i64 v))
  clear hI hT hd
  go_enter Tryz.func205, Tryz.ntmps205
  go_wp2_with (first | (go_at_call 206; refine (mask_Decode.calls _ _ _ _ _ _ _ HD.out).mono ?_; rintro e w1 ⟨rfl, hb1⟩; have HI1 := aq ((hb1.block I (by simp [World.setCell]; exact (Array.getElem?_eq_some_iff.1 HI.out).1)).trans ((Below.heap_setCell W ⟨T, 2, none⟩ _ I hne).trans HI.out)); have HT1 := aq ((hb1.block T (by simp [World.setCell]; exact (Array.getElem?_eq_some_iff.1 HT.out).1)).trans (blk_set HT.out 2 _)); have HP1 := aq (((PutTo.refl W I T).set (.inr rfl) _).step hb1); obtain ⟨d0, d1, d2, d3, d4, d5, d6, d7, d8, d9⟩ := cells10_ HI1.out; have hfi := blk_frozen HI1.out 6; clear hb1) | (go_at_call 102; refine (code_must.ok _).mono ?_; rintro e w2 ⟨rfl, rfl⟩))
  go_end0
  exact ⟨rfl, HP1.out.set (.inl rfl) _, blk_set HI1.out 6 _, (Below.heap_setCell _ _ _ T (fun e => hne e.symm)).trans HT1.out⟩
set_option maxHeartbeats 4000000 in
theorem put_mk2_bad (I T B k : Nat) (i0 i1 i2 i3 i4 i5 i6 i7 i8 i9 : Int) (t0 t1 t2 v m x : Int) (W : World) (hI : W.heap[I]? = some (.cells #[.int .i64 i0, .int .i64 i1, .int .i64 i2, .int .i64 i3, .int .i64 i4, .int .i64 i5, .int .u64 i6, .int .i64 i7, .int .i64 i8, .int .i64 i9] 148 (0, 0))) (hne : I ≠ T) (hBT : B ≠ T) (hT : ToldIs W T t0 t1 t2) (hc : W.cell? ⟨B, 0, none⟩ = some (.int .i64 2)) (hd : mask_Decode.f k t0 t1 v = some (m, x)) (hx : x ≠ 0) : Calls Tryz.prog 205 #[.pointer (some ⟨I, 0, none⟩), .int .i64 v, .pointer (some ⟨T, 0, none⟩), .pointer (some ⟨B, 0, none⟩)] W fun e W' => e = .panicked [{ v := .iface 27 (.int .i64 x), recovered := false }] ∧ PutTo W W' I T ∧ W'.heap[I]? = some (.cells #[.int .i64 i0, .int .i64 i1, .int .i64 i2, .int .i64 i3, .int .i64 i4, .int .i64 i5, .int .u64 i6, .int .i64 i7, .int .i64 i8, .int .i64 i9] 148 (0, 0)) := by
  obtain ⟨e0, e1, e2⟩ := cells3_ hT
  have hf := fun j => blk_frozen hT j
  have HI := aq hI
  have HT := aq hT
  have HD := aq hd
  have hs0 : (W.setCell ⟨T, 2, none⟩ (.int .i64 v)).cell? ⟨B, 0, none⟩ = some (.int .i64 2) := (World.cell?_of_block (w := W) (Below.heap_setCell W ⟨T, 2, none⟩ _ B hBT)).trans hc
  obtain ⟨s0, s1, s2⟩ := cells3_ (blk_set hT 2 (.int .i64 v))
  clear hI hT hd
  go_enter Tryz.func205, Tryz.ntmps205
  go_wp2_with (first | (go_at_call 206; refine (mask_Decode.calls _ _ _ _ _ _ _ HD.out).mono ?_; rintro e w1 ⟨rfl, hb1⟩; have HI1 := aq ((hb1.block I (by simp [World.setCell]; exact (Array.getElem?_eq_some_iff.1 HI.out).1)).trans ((Below.heap_setCell W ⟨T, 2, none⟩ _ I hne).trans HI.out)); have HP1 := aq (((PutTo.refl W I T).set (.inr rfl) _).step hb1); clear hb1) | (go_at_call 102; refine (code_must.bad _ _ hx).mono ?_; rintro e w2 ⟨rfl, rfl⟩))
  exact ⟨rfl, rfl, HP1.out, HI1.out⟩
theorem PutV.move {w w' : World} {T lo : Nat} {p : PD} {g : Value} (h : PutV w T lo p g) (hm : ∀ B, lo ≤ B → B < w.heap.size → B ≠ T → w'.heap[B]? = w.heap[B]?) (hf : p.isCap = true → w.heap.size ≤ T) : PutV w' T lo p g := by
  have mv : ∀ B v, lo ≤ B → B ≠ T → w.cell? ⟨B, 0, none⟩ = some v → w'.cell? ⟨B, 0, none⟩ = some v := fun B v h1 h2 h3 => (World.cell?_of_block (w := w) (hm B h1 (World.block_lt_of_cell? w ⟨B, 0, none⟩ h3) h2)).trans h3
  cases p <;> simp only [PutV] at h ⊢
  all_goals first
    | exact h
    | (obtain ⟨B, hl, e, hc⟩ := h; exact ⟨B, hl, e, mv B _ hl (fun e => by have h1 := hf rfl; have h2 : B < w.heap.size := World.block_lt_of_cell? w ⟨B, 0, none⟩ hc; omega) hc⟩)
    | (obtain ⟨hj, B, hl, hn, e, hc⟩ := h; exact ⟨hj, B, hl, hn, e, mv B _ hl hn hc⟩)
theorem put_form {w : World} {T lo : Nat} {p : PD} {pf : Nat} {pc : Array Value} (h : PutV w T lo p (.func (.func pf) #[] pc)) : pc = #[] ∨ (∃ a, pc = #[a]) ∨ (∃ a b, pc = #[a, b]) := by
  cases p <;> simp only [PutV] at h
  all_goals first
    | (injection h with _ _ h; exact .inl h)
    | (obtain ⟨B, hl, e, hc⟩ := h; injection e with _ _ e; exact .inr (.inl ⟨_, e⟩))
    | (obtain ⟨hj, B, hl, hn, e, hc⟩ := h; injection e with _ _ e; exact .inr (.inr ⟨_, _, e⟩))
theorem put_enters {w : World} {T lo : Nat} {p : PD} {pf : Nat} {pc : Array Value} (h : PutV w T lo p (.func (.func pf) #[] pc)) : ∀ args W, (callFunc pf args).run Tryz.prog W = .ok (.enter pf args) W := by
  cases p <;> simp only [PutV] at h
  · injection h with h _ _; injection h with h; subst h; exact enters_ Tryz.func194 (by kernel_rfl) rfl
  · injection h with h _ _; injection h with h; subst h; exact enters_ Tryz.func200 (by kernel_rfl) rfl
  · injection h with h _ _; injection h with h; subst h; exact enters_ Tryz.func208 (by kernel_rfl) rfl
  · injection h with h _ _; injection h with h; subst h; exact enters_ Tryz.func212 (by kernel_rfl) rfl
  · obtain ⟨B, hl, h, hc⟩ := h; injection h with h _ _; injection h with h; subst h; exact enters_ Tryz.func196 (by kernel_rfl) rfl
  · obtain ⟨B, hl, h, hc⟩ := h; injection h with h _ _; injection h with h; subst h; exact enters_ Tryz.func198 (by kernel_rfl) rfl
  · injection h with h _ _; injection h with h; subst h; exact enters_ Tryz.func210 (by kernel_rfl) rfl
  · injection h with h _ _; injection h with h; subst h; exact enters_ Tryz.func218 (by kernel_rfl) rfl
  · injection h with h _ _; injection h with h; subst h; exact enters_ Tryz.func214 (by kernel_rfl) rfl
  · injection h with h _ _; injection h with h; subst h; exact enters_ Tryz.func216 (by kernel_rfl) rfl
  · obtain ⟨hj, B, hl, hn, h, hc⟩ := h; injection h with h _ _; injection h with h; subst h; exact enters_ Tryz.func205 (by kernel_rfl) rfl
theorem put_ok (k : Nat) (p : PD) (pf : Nat) (pc : Array Value) (c c' : CI) (t t' : T3) (v : Int) (W : World) (I T lo : Nat) (hp : PutV W T lo p (.func (.func pf) #[] pc)) (hI : CIAt W I c) (hne : I ≠ T) (ht : ∀ j, p = .mk j → ToldIs W T t.t0 t.t1 t.t2) (h : p.put k c t v = some (0, c', t')) :
    Calls Tryz.prog pf (#[.pointer (some ⟨I, 0, none⟩), .int .i64 v] ++ pc) W fun e W' => e = .returned (.tuple #[]) ∧ PutTo W W' I T ∧ CIAt W' I c' ∧ (ToldIs W T t.t0 t.t1 t.t2 → ToldIs W' T t'.t0 t'.t1 t'.t2) := by
  have told : ∀ W' : World, (T ≠ I → T < W.heap.size → W'.heap[T]? = W.heap[T]?) → ToldIs W T t.t0 t.t1 t.t2 → ToldIs W' T t.t0 t.t1 t.t2 := fun W' hm hT => (hm (Ne.symm hne) (Array.getElem?_eq_some_iff.1 hT).1).trans hT
  cases p with
  | d => simp only [PutV] at hp; injection hp with e1 _ e2; injection e1 with e1; subst e1 e2; simp only [PD.put] at h; injection h with h; injection h with _ h; injection h with h1 h2; subst h1 h2; exact (put_d I T _ _ _ _ _ _ _ _ _ _ v W hI).mono fun e W' ⟨he, h1, h2, h3⟩ => ⟨he, h1, h2, told W' h3⟩
  | n => simp only [PutV] at hp; injection hp with e1 _ e2; injection e1 with e1; subst e1 e2; simp only [PD.put] at h; injection h with h; injection h with _ h; injection h with h1 h2; subst h1 h2; exact (put_n I T _ _ _ _ _ _ _ _ _ _ v W hI).mono fun e W' ⟨he, h1, h2, h3⟩ => ⟨he, h1, h2, told W' h3⟩
  | m => simp only [PutV] at hp; injection hp with e1 _ e2; injection e1 with e1; subst e1 e2; simp only [PD.put] at h; injection h with h; injection h with _ h; injection h with h1 h2; subst h1 h2; exact (put_m I T _ _ _ _ _ _ _ _ _ _ v W hI).mono fun e W' ⟨he, h1, h2, h3⟩ => ⟨he, h1, h2, told W' h3⟩
  | a => simp only [PutV] at hp; injection hp with e1 _ e2; injection e1 with e1; subst e1 e2; simp only [PD.put] at h; injection h with h; injection h with _ h; injection h with h1 h2; subst h1 h2; exact (put_a I T _ _ _ _ _ _ _ _ _ _ v W hI).mono fun e W' ⟨he, h1, h2, h3⟩ => ⟨he, h1, h2, told W' h3⟩
  | sh => simp only [PutV] at hp; injection hp with e1 _ e2; injection e1 with e1; subst e1 e2; simp only [PD.put] at h; injection h with h; injection h with _ h; injection h with h1 h2; subst h1 h2; exact (put_sh I T _ _ _ _ _ _ _ _ _ _ v W hI).mono fun e W' ⟨he, h1, h2, h3⟩ => ⟨he, h1, h2, told W' h3⟩
  | cond x => simp only [PutV] at hp; injection hp with e1 _ e2; injection e1 with e1; subst e1 e2; simp only [PD.put] at h; injection h with h; injection h with _ h; injection h with h1 h2; subst h1 h2; exact (put_cond I T _ _ _ _ _ _ _ _ _ _ v W hI).mono fun e W' ⟨he, h1, h2, h3⟩ => ⟨he, h1, h2, told W' h3⟩
  | lo => simp only [PutV] at hp; injection hp with e1 _ e2; injection e1 with e1; subst e1 e2; simp only [PD.put] at h; injection h with h; injection h with _ h; injection h with h1 h2; subst h1 h2; exact (put_lo I T _ _ _ _ _ _ _ _ _ _ v W hI).mono fun e W' ⟨he, h1, h2, h3⟩ => ⟨he, h1, h2, told W' h3⟩
  | hi => simp only [PutV] at hp; injection hp with e1 _ e2; injection e1 with e1; subst e1 e2; simp only [PD.put] at h; injection h with h; injection h with _ h; injection h with h1 h2; subst h1 h2; exact (put_hi I T _ _ _ _ _ _ _ _ _ _ v W hI).mono fun e W' ⟨he, h1, h2, h3⟩ => ⟨he, h1, h2, told W' h3⟩
  | imm x y b s => simp only [PutV] at hp; obtain ⟨B, hl, hp, hc⟩ := hp; injection hp with e1 _ e2; injection e1 with e1; subst e1 e2; simp only [PD.put] at h; injection h with h; injection h with _ h; injection h with h1 h2; subst h1 h2; exact (put_imm I T B b _ _ _ _ _ _ _ _ _ _ v W hI hc).mono fun e W' ⟨he, h1, h2, h3⟩ => ⟨he, h1, h2, told W' h3⟩
  | amt x y b => simp only [PutV] at hp; obtain ⟨B, hl, hp, hc⟩ := hp; injection hp with e1 _ e2; injection e1 with e1; subst e1 e2; simp only [PD.put] at h; injection h with h; injection h with _ h; injection h with h1 h2; subst h1 h2; exact (put_amt I T B b _ _ _ _ _ _ _ _ _ _ v W hI hc).mono fun e W' ⟨he, h1, h2, h3⟩ => ⟨he, h1, h2, told W' h3⟩
  | mk j =>
    simp only [PutV] at hp
    obtain ⟨hj, B, hl, hBT, hp, hc⟩ := hp
    injection hp with e1 _ e2
    injection e1 with e1
    subst e1 e2
    have hT := ht j rfl
    obtain rfl | rfl | rfl : j = 0 ∨ j = 1 ∨ j = 2 := by omega
    · simp only [PD.put] at h
      injection h with h; injection h with _ h; injection h with h1 h2; subst h1 h2; exact (put_mk0 I T B _ _ _ _ _ _ _ _ _ _ _ _ _ v W hI hne hBT hT hc).mono fun e W' ⟨he, h1, h2, h3⟩ => ⟨he, h1, h2, fun _ => h3⟩
    · simp only [PD.put] at h
      injection h with h; injection h with _ h; injection h with h1 h2; subst h1 h2; exact (put_mk1 I T B _ _ _ _ _ _ _ _ _ _ _ _ _ v W hI hne hBT hT hc).mono fun e W' ⟨he, h1, h2, h3⟩ => ⟨he, h1, h2, fun _ => h3⟩
    · simp only [PD.put] at h
      obtain ⟨⟨m, x⟩, hd, h⟩ := Option.bind_eq_some_iff.mp h
      simp only at h
      split at h
      next hx =>
        subst hx
        injection h with h; injection h with _ h; injection h with h1 h2; subst h1 h2; exact (put_mk2 I T B k _ _ _ _ _ _ _ _ _ _ _ _ _ v m W hI hne hBT hT hc hd).mono fun e W' ⟨he, h1, h2, h3⟩ => ⟨he, h1, h2, fun _ => h3⟩
      next hx =>
        injection h with h
        injection h with h _
        exact absurd h hx
theorem put_bad (k : Nat) (p : PD) (pf : Nat) (pc : Array Value) (c c' : CI) (t t' : T3) (v x : Int) (W : World) (I T lo : Nat) (hp : PutV W T lo p (.func (.func pf) #[] pc)) (hI : CIAt W I c) (hne : I ≠ T) (ht : ∀ j, p = .mk j → ToldIs W T t.t0 t.t1 t.t2) (h : p.put k c t v = some (x, c', t')) (hx : x ≠ 0) :
    Calls Tryz.prog pf (#[.pointer (some ⟨I, 0, none⟩), .int .i64 v] ++ pc) W fun e W' => e = .panicked [{ v := .iface 27 (.int .i64 x), recovered := false }] ∧ PutTo W W' I T ∧ CIAt W' I c' := by
  cases p with
  | mk j =>
    simp only [PutV] at hp
    obtain ⟨hj, B, hl, hBT, hp, hc⟩ := hp
    injection hp with e1 _ e2
    injection e1 with e1
    subst e1 e2
    have hT := ht j rfl
    obtain rfl | rfl | rfl : j = 0 ∨ j = 1 ∨ j = 2 := by omega
    · simp only [PD.put] at h; injection h with h; injection h with h _; exact absurd h.symm hx
    · simp only [PD.put] at h; injection h with h; injection h with h _; exact absurd h.symm hx
    · simp only [PD.put] at h
      obtain ⟨⟨m, y⟩, hd, h⟩ := Option.bind_eq_some_iff.mp h
      simp only at h
      split at h
      next hy => injection h with h; injection h with h _; exact absurd h.symm hx
      next hy =>
        injection h with h
        injection h with h1 h
        injection h with h2 h3
        subst h1 h2
        exact put_mk2_bad I T B k _ _ _ _ _ _ _ _ _ _ _ _ _ v m _ W hI hne hBT hT hc hd hx
  | d => simp only [PD.put] at h; injection h with h; injection h with h _; exact absurd h.symm hx
  | n => simp only [PD.put] at h; injection h with h; injection h with h _; exact absurd h.symm hx
  | m => simp only [PD.put] at h; injection h with h; injection h with h _; exact absurd h.symm hx
  | a => simp only [PD.put] at h; injection h with h; injection h with h _; exact absurd h.symm hx
  | sh => simp only [PD.put] at h; injection h with h; injection h with h _; exact absurd h.symm hx
  | cond _ => simp only [PD.put] at h; injection h with h; injection h with h _; exact absurd h.symm hx
  | lo => simp only [PD.put] at h; injection h with h; injection h with h _; exact absurd h.symm hx
  | hi => simp only [PD.put] at h; injection h with h; injection h with h _; exact absurd h.symm hx
  | imm _ _ _ _ => simp only [PD.put] at h; injection h with h; injection h with h _; exact absurd h.symm hx
  | amt _ _ _ => simp only [PD.put] at h; injection h with h; injection h with h _; exact absurd h.symm hx
theorem PutTo.trans {W W1 W2 : World} {I T : Nat} (h : PutTo W W1 I T) (g : PutTo W1 W2 I T) : PutTo W W2 I T where
  block b hl h1 h2 := (g.block b (Nat.lt_of_lt_of_le hl h.size) h1 h2).trans (h.block b hl h1 h2)
  size := Nat.le_trans h.size g.size
  below w hw hI hT := g.below w (h.below w hw hI hT) hI hT
def CI.zero : CI := ⟨0, 0, 0, 0, 0, 0, 0, 0, 0, 0⟩
def ErrAt (w : World) (E : Nat) (x : Int) : Prop := w.heap[E]? = some (.cells #[.int .i64 x] 27 (0, 0))
def CI.is (k : Nat) (c : CI) : Option Bool := inst_Is.f k c.o c.d c.n c.m c.a c.im c.ms c.sh c.am c.cd
set_option maxHeartbeats 1000000 in
set_option maxRecDepth 100000 in
theorem catch_err (E I : Nat) (hEI : E ≠ I) (x y : Int) (c : CI) (older : List PanicEntry) (W : World) (hE : ErrAt W E y) (hI : CIAt W I c) :
    CallsD Tryz.prog 96 #[.pointer (some ⟨E, 0, none⟩), .pointer (some ⟨I, 0, none⟩)] (.panicking ({ v := .iface 27 (.int .i64 x), recovered := false } :: older)) W fun e u' W' =>
      e = .returned (.tuple #[]) ∧ u' = .panicking ({ v := .iface 27 (.int .i64 x), recovered := true } :: older) ∧ ErrAt W' E 11 ∧ CIAt W' I CI.zero ∧ PutTo W W' I E := by
  have hc0 : W.cell? ⟨E, 0, none⟩ = some (.int .i64 y) := (blk_cell hE 0).trans rfl
  obtain ⟨d0, d1, d2, d3, d4, d5, d6, d7, d8, d9⟩ := cells10_ hI
  have hf := fun j => blk_frozen hI j
  have hfE := blk_frozen hE 0
  have hta : ∀ w, (Instr.typeAssert (.iface 27 (.int .i64 x)) 20 27 true).run Tryz.prog w = .ok (.tuple #[.int .i64 x, .bool true]) w := fun w => by kernel_rfl
  refine callsD_of_wpS Tryz.func96 rfl fun c₀ cs hu => ?_
  apply wpS_seq
  apply wpS_region
  simp [wpOpsS, go_sem, recoverD, hu, Tryz.ntmps96, Exit.thenS, hta]
  refine wpS_of_wp (Code.wp_mono (Q := fun e a' w' => e = .normal ∧ a'.defers = [] ∧ ErrAt w' E 11 ∧ CIAt w' I CI.zero ∧ PutTo W w' I E) (fun e a' w' h => ?_) ?_)
  · obtain ⟨rfl, hd, h1, h2, h3⟩ := h
    exact ⟨hd, _, rfl, .tuple #[], by simp [results, Tryz.results96], rfl, rfl, h1, h2, h3⟩
  · have HE := aq hE
    have HI := aq hI
    clear hE hI hu
    have hr : Array.replicate 18 undef = #[undef, undef, undef, undef, undef, undef, undef, undef, undef, undef, undef, undef, undef, undef, undef, undef, undef, undef] := rfl
    simp only [hr, List.setIfInBounds_toArray, List.set_cons_zero, List.set_cons_succ, List.append_toArray, List.cons_append, List.nil_append]
    clear hr hta
    generalize hQ : (fun (e : Exit) (a' : Act) (w' : World) => e = Exit.normal ∧ a'.defers = [] ∧ ErrAt w' E 11 ∧ CIAt w' I CI.zero ∧ PutTo W w' I E) = Q
    go_wp2
    subst hQ
    refine ⟨rfl, rfl, ?_, ?_, ?_⟩
    · clear HI
      have s0 : W.heap[E]? = some (.cells #[.int .i64 y] 27 (0, 0)) := HE.out
      replace s0 := blk_far s0 (p := ⟨I, 0, none⟩) hEI (.int .i64 0)
      replace s0 := blk_far s0 (p := ⟨I, 1, none⟩) hEI (.int .i64 0)
      replace s0 := blk_far s0 (p := ⟨I, 2, none⟩) hEI (.int .i64 0)
      replace s0 := blk_far s0 (p := ⟨I, 3, none⟩) hEI (.int .i64 0)
      replace s0 := blk_far s0 (p := ⟨I, 4, none⟩) hEI (.int .i64 0)
      replace s0 := blk_far s0 (p := ⟨I, 5, none⟩) hEI (.int .i64 0)
      replace s0 := blk_far s0 (p := ⟨I, 6, none⟩) hEI (.int .u64 0)
      replace s0 := blk_far s0 (p := ⟨I, 7, none⟩) hEI (.int .i64 0)
      replace s0 := blk_far s0 (p := ⟨I, 8, none⟩) hEI (.int .i64 0)
      replace s0 := blk_far s0 (p := ⟨I, 9, none⟩) hEI (.int .i64 0)
      replace s0 := blk_set s0 0 (.int .i64 11)
      simp only [List.setIfInBounds_toArray, List.set_cons_zero, List.set_cons_succ] at s0
      exact s0
    · clear HE
      have s0 : W.heap[I]? = some (.cells #[.int .i64 c.o, .int .i64 c.d, .int .i64 c.n, .int .i64 c.m, .int .i64 c.a, .int .i64 c.im, .int .u64 c.ms, .int .i64 c.sh, .int .i64 c.am, .int .i64 c.cd] 148 (0, 0)) := HI.out
      replace s0 := blk_set s0 0 (.int .i64 0)
      simp only [List.setIfInBounds_toArray, List.set_cons_zero, List.set_cons_succ] at s0
      replace s0 := blk_set s0 1 (.int .i64 0)
      simp only [List.setIfInBounds_toArray, List.set_cons_zero, List.set_cons_succ] at s0
      replace s0 := blk_set s0 2 (.int .i64 0)
      simp only [List.setIfInBounds_toArray, List.set_cons_zero, List.set_cons_succ] at s0
      replace s0 := blk_set s0 3 (.int .i64 0)
      simp only [List.setIfInBounds_toArray, List.set_cons_zero, List.set_cons_succ] at s0
      replace s0 := blk_set s0 4 (.int .i64 0)
      simp only [List.setIfInBounds_toArray, List.set_cons_zero, List.set_cons_succ] at s0
      replace s0 := blk_set s0 5 (.int .i64 0)
      simp only [List.setIfInBounds_toArray, List.set_cons_zero, List.set_cons_succ] at s0
      replace s0 := blk_set s0 6 (.int .u64 0)
      simp only [List.setIfInBounds_toArray, List.set_cons_zero, List.set_cons_succ] at s0
      replace s0 := blk_set s0 7 (.int .i64 0)
      simp only [List.setIfInBounds_toArray, List.set_cons_zero, List.set_cons_succ] at s0
      replace s0 := blk_set s0 8 (.int .i64 0)
      simp only [List.setIfInBounds_toArray, List.set_cons_zero, List.set_cons_succ] at s0
      replace s0 := blk_set s0 9 (.int .i64 0)
      simp only [List.setIfInBounds_toArray, List.set_cons_zero, List.set_cons_succ] at s0
      exact blk_far s0 (Ne.symm hEI) _
    · exact (((((((((((PutTo.refl W I E).set (.inl rfl) _).set (.inl rfl) _).set (.inl rfl) _).set (.inl rfl) _).set (.inl rfl) _).set (.inl rfl) _).set (.inl rfl) _).set (.inl rfl) _).set (.inl rfl) _).set (.inl rfl) _).set (.inr rfl) _
set_option maxHeartbeats 1000000 in
set_option maxRecDepth 100000 in
theorem idle_ok (k E I : Nat) (hEI : E ≠ I) (c : CI) (W : World) (hE : ErrAt W E 0) (hI : CIAt W I c) (his : c.is k = some true) (hTab : TabW W) :
    CallsD Tryz.prog 96 #[.pointer (some ⟨E, 0, none⟩), .pointer (some ⟨I, 0, none⟩)] .returning W fun e u' w' => e = .returned (.tuple #[]) ∧ u' = .returning ∧ Below W.heap.size W w' := by
  have hc0 : W.cell? ⟨E, 0, none⟩ = some (.int .i64 0) := (blk_cell hE 0).trans rfl
  obtain ⟨d0, d1, d2, d3, d4, d5, d6, d7, d8, d9⟩ := cells10_ hI
  have hta : ∀ w, (Instr.typeAssert .nilIface 20 27 true).run Tryz.prog w = .ok (.tuple #[.int .i64 0, .bool false]) w := fun w => by kernel_rfl
  refine callsD_of_wpS Tryz.func96 rfl fun c₀ cs hu => ?_
  apply wpS_seq
  apply wpS_region
  simp [wpOpsS, go_sem, recoverD, hu, Tryz.ntmps96, Exit.thenS, hta]
  refine wpS_of_wp (Code.wp_mono (Q := fun e a' w' => e = .normal ∧ a'.defers = [] ∧ Below W.heap.size W w') (fun e a' w' h => ?_) ?_)
  · obtain ⟨rfl, hd, h1⟩ := h
    exact ⟨hd, .returning, by rw [← hu], .tuple #[], by simp [results, Tryz.results96], rfl, rfl, h1⟩
  · have HE := aq hE
    have HI := aq hI
    have HIS := aq his
    clear hE hI hu his
    have hr : Array.replicate 18 undef = #[undef, undef, undef, undef, undef, undef, undef, undef, undef, undef, undef, undef, undef, undef, undef, undef, undef, undef] := rfl
    simp only [hr, List.setIfInBounds_toArray, List.set_cons_zero, List.set_cons_succ, List.append_toArray, List.cons_append, List.nil_append]
    clear hr hta
    generalize hQ : (fun (e : Exit) (a' : Act) (w' : World) => e = Exit.normal ∧ a'.defers = [] ∧ Below W.heap.size W w') = Q
    go_wp2_with (go_at_call 97; refine (inst_Is.calls k _ _ _ _ _ _ _ _ _ _ _ _ HIS.out (hTab := hTab)).mono ?_; rintro e w1 ⟨rfl, hb1⟩; have HB1 := aq hb1; (try (have hI1 := (hb1.block I (Array.getElem?_eq_some_iff.1 HI.out).1).trans HI.out; obtain ⟨f0, f1, f2, f3, f4, f5, f6, f7, f8, f9⟩ := cells10_ hI1; have hfi := fun j => blk_frozen hI1 j; have hE1 := (hb1.block E (Array.getElem?_eq_some_iff.1 HE.out).1).trans HE.out; have hfE := blk_frozen hE1 0; have hcE := (blk_cell hE1 0).trans rfl; have HI1 := aq hI1; have HE1 := aq hE1; clear hI1 hE1)); clear hb1)
    subst hQ
    exact ⟨rfl, rfl, HB1.out⟩
set_option maxHeartbeats 1000000 in
set_option maxRecDepth 100000 in
theorem idle_no (k E I : Nat) (hEI : E ≠ I) (c : CI) (W : World) (hE : ErrAt W E 0) (hI : CIAt W I c) (his : c.is k = some false) (hTab : TabW W) :
    CallsD Tryz.prog 96 #[.pointer (some ⟨E, 0, none⟩), .pointer (some ⟨I, 0, none⟩)] .returning W fun e u' w' => e = .returned (.tuple #[]) ∧ u' = .returning ∧ ErrAt w' E 11 ∧ CIAt w' I CI.zero ∧ PutTo W w' I E := by
  have hc0 : W.cell? ⟨E, 0, none⟩ = some (.int .i64 0) := (blk_cell hE 0).trans rfl
  obtain ⟨d0, d1, d2, d3, d4, d5, d6, d7, d8, d9⟩ := cells10_ hI
  have hta : ∀ w, (Instr.typeAssert .nilIface 20 27 true).run Tryz.prog w = .ok (.tuple #[.int .i64 0, .bool false]) w := fun w => by kernel_rfl
  refine callsD_of_wpS Tryz.func96 rfl fun c₀ cs hu => ?_
  apply wpS_seq
  apply wpS_region
  simp [wpOpsS, go_sem, recoverD, hu, Tryz.ntmps96, Exit.thenS, hta]
  refine wpS_of_wp (Code.wp_mono (Q := fun e a' w' => e = .normal ∧ a'.defers = [] ∧ ErrAt w' E 11 ∧ CIAt w' I CI.zero ∧ PutTo W w' I E) (fun e a' w' h => ?_) ?_)
  · obtain ⟨rfl, hd, h1⟩ := h
    exact ⟨hd, .returning, by rw [← hu], .tuple #[], by simp [results, Tryz.results96], rfl, rfl, h1⟩
  · have HE := aq hE
    have HI := aq hI
    have HIS := aq his
    clear hE hI hu his
    have hr : Array.replicate 18 undef = #[undef, undef, undef, undef, undef, undef, undef, undef, undef, undef, undef, undef, undef, undef, undef, undef, undef, undef] := rfl
    simp only [hr, List.setIfInBounds_toArray, List.set_cons_zero, List.set_cons_succ, List.append_toArray, List.cons_append, List.nil_append]
    clear hr hta
    generalize hQ : (fun (e : Exit) (a' : Act) (w' : World) => e = Exit.normal ∧ a'.defers = [] ∧ ErrAt w' E 11 ∧ CIAt w' I CI.zero ∧ PutTo W w' I E) = Q
    go_wp2_with (go_at_call 97; refine (inst_Is.calls k _ _ _ _ _ _ _ _ _ _ _ _ HIS.out (hTab := hTab)).mono ?_; rintro e w1 ⟨rfl, hb1⟩; have HB1 := aq hb1; (try (have hI1 := (hb1.block I (Array.getElem?_eq_some_iff.1 HI.out).1).trans HI.out; obtain ⟨f0, f1, f2, f3, f4, f5, f6, f7, f8, f9⟩ := cells10_ hI1; have hfi := fun j => blk_frozen hI1 j; have hE1 := (hb1.block E (Array.getElem?_eq_some_iff.1 HE.out).1).trans HE.out; have hfE := blk_frozen hE1 0; have hcE := (blk_cell hE1 0).trans rfl; have HI1 := aq hI1; have HE1 := aq hE1; clear hI1 hE1)); clear hb1)
    subst hQ
    refine ⟨rfl, rfl, ?_, ?_, ?_⟩
    · skip
      have s0 : w1.heap[E]? = some (.cells #[.int .i64 0] 27 (0, 0)) := HE1.out
      replace s0 := blk_far s0 (p := ⟨I, 0, none⟩) hEI (.int .i64 0)
      replace s0 := blk_far s0 (p := ⟨I, 1, none⟩) hEI (.int .i64 0)
      replace s0 := blk_far s0 (p := ⟨I, 2, none⟩) hEI (.int .i64 0)
      replace s0 := blk_far s0 (p := ⟨I, 3, none⟩) hEI (.int .i64 0)
      replace s0 := blk_far s0 (p := ⟨I, 4, none⟩) hEI (.int .i64 0)
      replace s0 := blk_far s0 (p := ⟨I, 5, none⟩) hEI (.int .i64 0)
      replace s0 := blk_far s0 (p := ⟨I, 6, none⟩) hEI (.int .u64 0)
      replace s0 := blk_far s0 (p := ⟨I, 7, none⟩) hEI (.int .i64 0)
      replace s0 := blk_far s0 (p := ⟨I, 8, none⟩) hEI (.int .i64 0)
      replace s0 := blk_far s0 (p := ⟨I, 9, none⟩) hEI (.int .i64 0)
      replace s0 := blk_set s0 0 (.int .i64 11)
      simp only [List.setIfInBounds_toArray, List.set_cons_zero, List.set_cons_succ] at s0
      exact s0
    · skip
      have s0 : w1.heap[I]? = some (.cells #[.int .i64 c.o, .int .i64 c.d, .int .i64 c.n, .int .i64 c.m, .int .i64 c.a, .int .i64 c.im, .int .u64 c.ms, .int .i64 c.sh, .int .i64 c.am, .int .i64 c.cd] 148 (0, 0)) := HI1.out
      replace s0 := blk_set s0 0 (.int .i64 0)
      simp only [List.setIfInBounds_toArray, List.set_cons_zero, List.set_cons_succ] at s0
      replace s0 := blk_set s0 1 (.int .i64 0)
      simp only [List.setIfInBounds_toArray, List.set_cons_zero, List.set_cons_succ] at s0
      replace s0 := blk_set s0 2 (.int .i64 0)
      simp only [List.setIfInBounds_toArray, List.set_cons_zero, List.set_cons_succ] at s0
      replace s0 := blk_set s0 3 (.int .i64 0)
      simp only [List.setIfInBounds_toArray, List.set_cons_zero, List.set_cons_succ] at s0
      replace s0 := blk_set s0 4 (.int .i64 0)
      simp only [List.setIfInBounds_toArray, List.set_cons_zero, List.set_cons_succ] at s0
      replace s0 := blk_set s0 5 (.int .i64 0)
      simp only [List.setIfInBounds_toArray, List.set_cons_zero, List.set_cons_succ] at s0
      replace s0 := blk_set s0 6 (.int .u64 0)
      simp only [List.setIfInBounds_toArray, List.set_cons_zero, List.set_cons_succ] at s0
      replace s0 := blk_set s0 7 (.int .i64 0)
      simp only [List.setIfInBounds_toArray, List.set_cons_zero, List.set_cons_succ] at s0
      replace s0 := blk_set s0 8 (.int .i64 0)
      simp only [List.setIfInBounds_toArray, List.set_cons_zero, List.set_cons_succ] at s0
      replace s0 := blk_set s0 9 (.int .i64 0)
      simp only [List.setIfInBounds_toArray, List.set_cons_zero, List.set_cons_succ] at s0
      exact blk_far s0 (Ne.symm hEI) _
    · exact ((((((((((((PutTo.refl W I E).step HB1.out).set (.inl rfl) _).set (.inl rfl) _).set (.inl rfl) _).set (.inl rfl) _).set (.inl rfl) _).set (.inl rfl) _).set (.inl rfl) _).set (.inl rfl) _).set (.inl rfl) _).set (.inl rfl) _).set (.inr rfl) _
theorem al_lt_ (w : World) (o : Obj) : w.heap.size < (w.alloc o).heap.size := by simp
theorem al2_lt_ (w : World) (o1 o2 : Obj) : w.heap.size + 1 < ((w.alloc o1).alloc o2).heap.size := by simp
theorem al2_last_ (w : World) (o1 o2 : Obj) : ((w.alloc o1).alloc o2).heap[w.heap.size + 1]? = some o2 := by
  have e : w.heap.size + 1 = (w.alloc o1).heap.size := by simp
  rw [e]
  exact cd_last (w.alloc o1) o2
def decGo (k : Nat) (w : Int) : List PD → CI → T3 → Option (Int × CI)
  | [], c, _ => some (0, c)
  | p :: ps, c, t => (bits_Field.f w p.at_ p.n_).bind fun q => if q.2 = 0 then (if p.sg_ = true then (bits_Signed.f k q.1 p.n_).bind fun s => if s.2 = 0 then some s.1 else none else some (wrap64 q.1)).bind fun v => (p.put k c t v).bind fun r => if r.1 = 0 then decGo k w ps r.2.1 r.2.2 else some (r.1, r.2.1) else none
def tup (c : CI) (e : Int) : Int × Int × Int × Int × Int × Int × Int × Int × Int × Int × Int := (c.o, c.d, c.n, c.m, c.a, c.im, c.ms, c.sh, c.am, c.cd, e)
def code_Decode.f (k : Nat) (w : Int) : Option (Int × Int × Int × Int × Int × Int × Int × Int × Int × Int × Int) :=
  (code_Opcode.f k w).bind fun op => (inst_Shape.f op).bind fun s => (decGo k w (partsOf s) ⟨op, 0, 0, 0, 0, 0, 0, 0, 0, 0⟩ ⟨0, 0, 0⟩).bind fun r =>
    if r.1 = 0 then (r.2.is k).bind fun b => if b = true then some (tup r.2 0) else some (tup CI.zero 11) else some (tup CI.zero 11)
def noMk (l : List PD) : Bool := l.all fun p => match p with | .mk _ => false | _ => true
theorem ite_noMk {c : Prop} [Decidable c] {a b : List PD} (ha : noMk a = true) (hb : noMk b = true) : noMk (if c then a else b) = true := by
  by_cases h : c
  · rw [if_pos h]; exact ha
  · rw [if_neg h]; exact hb
theorem parts_mk {s : Int} {j : Nat} (h : PD.mk j ∈ partsOf s) : s = 3 := by
  apply Classical.byContradiction
  intro hs
  have hn : noMk (partsOf s) = true := by
    unfold partsOf
    rw [if_neg hs]
    repeat (refine ite_noMk (by decide) ?_)
    decide
  have := List.all_eq_true.1 hn _ h
  simp at this
theorem store_back (w0 wr : World) (I E : Nat) (c : CI) (x : Int) (hI : CIAt wr I c) (hE : ErrAt wr E x) (hEI : E ≠ I) (hb : Below w0.heap.size w0 wr) (lI : w0.heap.size ≤ I) (lE : w0.heap.size ≤ E) :
    CIAt ((((((((((((wr.setCell ⟨I, 0, none⟩ (.int .i64 c.o)).setCell ⟨I, 1, none⟩ (.int .i64 c.d)).setCell ⟨I, 2, none⟩ (.int .i64 c.n)).setCell ⟨I, 3, none⟩ (.int .i64 c.m)).setCell ⟨I, 4, none⟩ (.int .i64 c.a)).setCell ⟨I, 5, none⟩ (.int .i64 c.im)).setCell ⟨I, 6, none⟩ (.int .u64 c.ms)).setCell ⟨I, 7, none⟩ (.int .i64 c.sh)).setCell ⟨I, 8, none⟩ (.int .i64 c.am)).setCell ⟨I, 9, none⟩ (.int .i64 c.cd)).setCell ⟨E, 0, none⟩ (.int .i64 0))) I c ∧ ErrAt ((((((((((((wr.setCell ⟨I, 0, none⟩ (.int .i64 c.o)).setCell ⟨I, 1, none⟩ (.int .i64 c.d)).setCell ⟨I, 2, none⟩ (.int .i64 c.n)).setCell ⟨I, 3, none⟩ (.int .i64 c.m)).setCell ⟨I, 4, none⟩ (.int .i64 c.a)).setCell ⟨I, 5, none⟩ (.int .i64 c.im)).setCell ⟨I, 6, none⟩ (.int .u64 c.ms)).setCell ⟨I, 7, none⟩ (.int .i64 c.sh)).setCell ⟨I, 8, none⟩ (.int .i64 c.am)).setCell ⟨I, 9, none⟩ (.int .i64 c.cd)).setCell ⟨E, 0, none⟩ (.int .i64 0))) E 0 ∧ Below w0.heap.size w0 ((((((((((((wr.setCell ⟨I, 0, none⟩ (.int .i64 c.o)).setCell ⟨I, 1, none⟩ (.int .i64 c.d)).setCell ⟨I, 2, none⟩ (.int .i64 c.n)).setCell ⟨I, 3, none⟩ (.int .i64 c.m)).setCell ⟨I, 4, none⟩ (.int .i64 c.a)).setCell ⟨I, 5, none⟩ (.int .i64 c.im)).setCell ⟨I, 6, none⟩ (.int .u64 c.ms)).setCell ⟨I, 7, none⟩ (.int .i64 c.sh)).setCell ⟨I, 8, none⟩ (.int .i64 c.am)).setCell ⟨I, 9, none⟩ (.int .i64 c.cd)).setCell ⟨E, 0, none⟩ (.int .i64 0))) := by
  refine ⟨?_, ?_, ?_⟩
  · have s0 : wr.heap[I]? = some (.cells #[.int .i64 c.o, .int .i64 c.d, .int .i64 c.n, .int .i64 c.m, .int .i64 c.a, .int .i64 c.im, .int .u64 c.ms, .int .i64 c.sh, .int .i64 c.am, .int .i64 c.cd] 148 (0, 0)) := hI
    replace s0 := blk_set s0 0 (.int .i64 c.o)
    simp only [List.setIfInBounds_toArray, List.set_cons_zero, List.set_cons_succ] at s0
    replace s0 := blk_set s0 1 (.int .i64 c.d)
    simp only [List.setIfInBounds_toArray, List.set_cons_zero, List.set_cons_succ] at s0
    replace s0 := blk_set s0 2 (.int .i64 c.n)
    simp only [List.setIfInBounds_toArray, List.set_cons_zero, List.set_cons_succ] at s0
    replace s0 := blk_set s0 3 (.int .i64 c.m)
    simp only [List.setIfInBounds_toArray, List.set_cons_zero, List.set_cons_succ] at s0
    replace s0 := blk_set s0 4 (.int .i64 c.a)
    simp only [List.setIfInBounds_toArray, List.set_cons_zero, List.set_cons_succ] at s0
    replace s0 := blk_set s0 5 (.int .i64 c.im)
    simp only [List.setIfInBounds_toArray, List.set_cons_zero, List.set_cons_succ] at s0
    replace s0 := blk_set s0 6 (.int .u64 c.ms)
    simp only [List.setIfInBounds_toArray, List.set_cons_zero, List.set_cons_succ] at s0
    replace s0 := blk_set s0 7 (.int .i64 c.sh)
    simp only [List.setIfInBounds_toArray, List.set_cons_zero, List.set_cons_succ] at s0
    replace s0 := blk_set s0 8 (.int .i64 c.am)
    simp only [List.setIfInBounds_toArray, List.set_cons_zero, List.set_cons_succ] at s0
    replace s0 := blk_set s0 9 (.int .i64 c.cd)
    simp only [List.setIfInBounds_toArray, List.set_cons_zero, List.set_cons_succ] at s0
    exact blk_far s0 (Ne.symm hEI) _
  · have s0 : wr.heap[E]? = some (.cells #[.int .i64 x] 27 (0, 0)) := hE
    replace s0 := blk_far s0 (p := ⟨I, 0, none⟩) hEI (.int .i64 c.o)
    replace s0 := blk_far s0 (p := ⟨I, 1, none⟩) hEI (.int .i64 c.d)
    replace s0 := blk_far s0 (p := ⟨I, 2, none⟩) hEI (.int .i64 c.n)
    replace s0 := blk_far s0 (p := ⟨I, 3, none⟩) hEI (.int .i64 c.m)
    replace s0 := blk_far s0 (p := ⟨I, 4, none⟩) hEI (.int .i64 c.a)
    replace s0 := blk_far s0 (p := ⟨I, 5, none⟩) hEI (.int .i64 c.im)
    replace s0 := blk_far s0 (p := ⟨I, 6, none⟩) hEI (.int .u64 c.ms)
    replace s0 := blk_far s0 (p := ⟨I, 7, none⟩) hEI (.int .i64 c.sh)
    replace s0 := blk_far s0 (p := ⟨I, 8, none⟩) hEI (.int .i64 c.am)
    replace s0 := blk_far s0 (p := ⟨I, 9, none⟩) hEI (.int .i64 c.cd)
    exact blk_set s0 0 (.int .i64 0)
  · exact (((((((((((hb.setCell lI _).setCell lI _).setCell lI _).setCell lI _).setCell lI _).setCell lI _).setCell lI _).setCell lI _).setCell lI _).setCell lI _).setCell lE _)
theorem put_ok_at (k : Nat) (p : PD) (pf : Nat) (pc args : Array Value) (c c' : CI) (t t' : T3) (v : Int) (wr W : World) (I T lo : Nat) (hp : PutV wr T lo p (.func (.func pf) #[] pc)) (hI : CIAt wr I c) (hne : I ≠ T) (ht : ∀ j, p = .mk j → ToldIs wr T t.t0 t.t1 t.t2) (h : p.put k c t v = some (0, c', t')) (ha : args = #[.pointer (some ⟨I, 0, none⟩), .int .i64 v] ++ pc) (hB : Below wr.heap.size wr W) :
    Calls Tryz.prog pf args W fun e W' => e = .returned (.tuple #[]) ∧ PutTo wr W' I T ∧ CIAt W' I c' ∧ (ToldIs wr T t.t0 t.t1 t.t2 → ToldIs W' T t'.t0 t'.t1 t'.t2) := by
  subst ha
  refine (put_ok k p pf pc c c' t t' v W I T lo (hp.below hB) ((hB.block I (Array.getElem?_eq_some_iff.1 hI).1).trans hI) hne (fun j e => (ht j e).below hB) h).mono ?_
  rintro e W' ⟨rfl, h1, h2, h3⟩
  exact ⟨rfl, ((PutTo.refl wr I T).step hB).trans h1, h2, fun hT => h3 (hT.below hB)⟩
theorem put_bad_at (k : Nat) (p : PD) (pf : Nat) (pc args : Array Value) (c c' : CI) (t t' : T3) (v x : Int) (wr W : World) (I T lo : Nat) (hp : PutV wr T lo p (.func (.func pf) #[] pc)) (hI : CIAt wr I c) (hne : I ≠ T) (ht : ∀ j, p = .mk j → ToldIs wr T t.t0 t.t1 t.t2) (h : p.put k c t v = some (x, c', t')) (hx : x ≠ 0) (ha : args = #[.pointer (some ⟨I, 0, none⟩), .int .i64 v] ++ pc) (hB : Below wr.heap.size wr W) :
    Calls Tryz.prog pf args W fun e W' => e = .panicked [{ v := .iface 27 (.int .i64 x), recovered := false }] ∧ PutTo wr W' I T ∧ CIAt W' I c' := by
  subst ha
  refine (put_bad k p pf pc c c' t t' v x W I T lo (hp.below hB) ((hB.block I (Array.getElem?_eq_some_iff.1 hI).1).trans hI) hne (fun j e => (ht j e).below hB) h hx).mono ?_
  rintro e W' ⟨rfl, h1, h2⟩
  exact ⟨rfl, ((PutTo.refl wr I T).step hB).trans h1, h2⟩
set_option maxHeartbeats 16000000 in
set_option maxRecDepth 100000 in
theorem code_Decode.calls (k : Nat) (a0 : Int) (r0 r1 r2 r3 r4 r5 r6 r7 r8 r9 r10 : Int) (w : World) (h : code_Decode.f k a0 = some (r0, r1, r2, r3, r4, r5, r6, r7, r8, r9, r10)) (hTab : TabW w := by first | exact hTab | exact TabW.drew hTab | exact TabW.drewN hTab _ | exact TabW.below hTab (by repeat (first | (with_reducible first | exact HB.out | apply below_alloc | apply pw_below_drewN | apply below_drew1) | refine Below.setCell ?_ (Aside0.out (by assumption)) _ | exact HB.out | exact Below.refl _ _))) :
    Calls Tryz.prog 77 #[.int .u32 a0] w fun e w' => e = .returned (.tuple #[.agg #[.int .i64 r0, .int .i64 r1, .int .i64 r2, .int .i64 r3, .int .i64 r4, .int .i64 r5, .int .u64 r6, .int .i64 r7, .int .i64 r8, .int .i64 r9], .int .i64 r10]) ∧ Below w.heap.size w w' := by
  have hmf : ∀ (fn : Fn) (first cap : Array Value) (w : World), (Instr.makeFunc fn first cap).run Tryz.prog w = .ok (.func fn first cap) w := fun _ _ _ _ => rfl
  unfold code_Decode.f at h
  obtain ⟨op, hop, h⟩ := Option.bind_eq_some_iff.mp h
  obtain ⟨s, hs, h⟩ := Option.bind_eq_some_iff.mp h
  obtain ⟨⟨ee, cc⟩, hd, h⟩ := Option.bind_eq_some_iff.mp h
  have HO := aq hop
  have HS := aq hs
  have HD := aq hd
  have HH := aq h
  clear h hop hs hd
  go_enter_defers Tryz.func77, Tryz.ntmps77
  go_wp2_with (go_at_call 98; refine (code_Opcode.calls _ _ _ _ HO.out).mono ?_; rintro e w1 ⟨rfl, hb1⟩; have hI := (hb1.block w.heap.size (Nat.lt_trans (al_lt_ w _) (al_lt_ _ _))).trans (blk_alloc (cd_last w _) _); obtain ⟨d0, d1, d2, d3, d4, d5, d6, d7, d8, d9⟩ := cells10_ hI; have hf := fun j => blk_frozen hI j; have HI1 := aq hI; have HB1 := aq hb1; clear hb1 hI)
  have hI2 := blk_set HI1.out 0 (.int .i64 op)
  simp only [List.setIfInBounds_toArray, List.set_cons_zero, List.set_cons_succ] at hI2
  have hE2 := blk_far ((HB1.out.block (w.heap.size + 1) (al2_lt_ w _ _)).trans (al2_last_ w _ _)) (p := ⟨w.heap.size, 0, none⟩) (by simp) (.int .i64 op)
  have hB2 := Below.setCell (below_step (below_alloc (below_alloc (Below.refl _ _) _) _) HB1.out) (p := ⟨w.heap.size, 0, none⟩) (Nat.le_refl _) (.int .i64 op)
  generalize w1.setCell ⟨w.heap.size, 0, none⟩ (.int .i64 op) = w2 at hI2 hE2 hB2 ⊢
  have HI2 := aq hI2
  have HE2 := aq hE2
  have HB2 := aq hB2
  clear HI1 HB1 hI2 hE2 hB2 d0 d1 d2 d3 d4 d5 d6 d7 d8 d9 hf w1
  have hlo2 : w.heap.size + 2 ≤ w2.heap.size := (Array.getElem?_eq_some_iff.1 HE2.out).1
  refine (inst_Shape.calls _ _ _ HS.out).mono ?_
  rintro e w2b ⟨rfl, hb2⟩
  have HB2b := aq hb2
  clear hb2
  go_wp2_with (go_at_call 99; refine (code_parts.calls s (w.heap.size + 2) _ (Nat.le_trans hlo2 HB2b.out.size)).mono ?_; rintro e w3 ⟨A, T, R, cap, rfl, hp⟩; have HP := aq hp; clear hp)
  have hB23 := below_step HB2b.out HP.out.below
  have HI3 := aq ((hB23.block w.heap.size (by omega)).trans HI2.out)
  have HE3 := aq ((hB23.block (w.heap.size + 1) (by omega)).trans HE2.out)
  have HB3 := aq (below_step HB2.out hB23)
  have hsz2 := HB2b.out.size
  clear hB23
  have HL5 := aq (parts_len s)
  have HMK := aq (fun (hm : ∃ j, PD.mk j ∈ partsOf s) => HP.out.told (by obtain ⟨j, hj⟩ := hm; exact parts_mk hj))
  have HN := aq HP.out.addr
  have HR := aq HP.out.lR
  have HT := aq HP.out.lT
  have HTR := aq HP.out.ne
  have HROW := aq HP.out.row
  have HFAR := aq HP.out.far
  have hsz3 := HP.out.below.size
  have hTab3 := TabW.below hTab HB3.out
  clear HP HB2 HI2 HE2 HB2b HO HS
  generalize partsOf s = pds at *
  go_loopg [18] pds.length (fun kq v18 wr => ∃ (i : Nat) (c : CI) (t : T3), v18 = .int .i64 (i : Int) ∧ i + kq = pds.length ∧ Aside0 (decGo k a0 (pds.drop i) c t = some (ee, cc)) ∧ Aside0 (CIAt wr w.heap.size c) ∧ Aside0 (PutTo w3 wr w.heap.size T) ∧ Aside0 ((∃ j, PD.mk j ∈ pds) → ToldIs wr T t.t0 t.t1 t.t2))
  case atStart => exact ⟨0, ⟨op, 0, 0, 0, 0, 0, 0, 0, 0, 0⟩, ⟨0, 0, 0⟩, rfl, by omega, ⟨by rw [List.drop_zero]; exact HD.out⟩, ⟨HI3.out⟩, ⟨PutTo.refl _ _ _⟩, HMK⟩
  case round =>
    clear HI3 HD
    obtain ⟨i, c, t, rfl, hik, HF, HI, HW, HTo⟩ := hrel
    have hIT : w.heap.size ≠ T := by have := HT.out; omega
    have hEr := (HW.out.block (w.heap.size + 1) (by omega) (by omega) (by have := HT.out; omega)).trans HE3.out
    have HE := aq hEr
    clear hEr
    cases gk with
    | zero =>
      obtain rfl : i = pds.length := by omega
      have hF := HF.out
      rw [List.drop_length] at hF
      obtain ⟨hF1, hF2⟩ : (0 : Int) = ee ∧ c = cc := by simpa [decGo] using hF
      subst hF1 hF2
      have hH := HH.out
      rw [if_pos rfl] at hH
      obtain ⟨b, hb, hH⟩ := Option.bind_eq_some_iff.mp hH
      have HIS := aq hb
      have hHH := aq hH
      clear hb hH hF HF HH HTo
      obtain ⟨d0, d1, d2, d3, d4, d5, d6, d7, d8, d9⟩ := cells10_ HI.out
      have hf := fun j => blk_frozen HI.out j
      have he0 := (blk_cell HE.out 0).trans rfl
      have hfe := blk_frozen HE.out 0
      go_wp2
      clear hf hfe he0 d0 d1 d2 d3 d4 d5 d6 d7 d8 d9
      have hbk := store_back w wr w.heap.size (w.heap.size + 1) c 0 HI.out HE.out (by omega) (HW.out.below w HB3.out (Nat.le_refl _) (by have := HT.out; omega)) (Nat.le_refl _) (by omega)
      refine leaves_cons (f := 96) (args := #[.pointer (some ⟨w.heap.size + 1, 0, none⟩), .pointer (some ⟨w.heap.size, 0, none⟩)]) (by simp) (by simp [go_sem]) ?_
      cases b with
      | true =>
        refine (idle_ok k (w.heap.size + 1) w.heap.size (by omega) c _ hbk.2.1 hbk.1 HIS.out (TabW.below hTab hbk.2.2)).mono ?_
        rintro e u' w8 ⟨rfl, rfl, hb8⟩
        have hI8 : CIAt w8 w.heap.size c := (hb8.block w.heap.size (Array.getElem?_eq_some_iff.1 hbk.1).1).trans hbk.1
        have hE8 : ErrAt w8 (w.heap.size + 1) 0 := (hb8.block (w.heap.size + 1) (Array.getElem?_eq_some_iff.1 hbk.2.1).1).trans hbk.2.1
        have hB8 := below_step hbk.2.2 hb8
        clear hbk hb8
        obtain ⟨d0, d1, d2, d3, d4, d5, d6, d7, d8, d9⟩ := cells10_ hI8
        have he0 : w8.cell? ⟨w.heap.size + 1, 0, none⟩ = some (.int .i64 0) := (blk_cell hE8 0).trans rfl
        have hH := hHH.out
        rw [if_pos rfl] at hH
        simp only [tup, Option.some.injEq, Prod.mk.injEq] at hH
        obtain ⟨rfl, rfl, rfl, rfl, rfl, rfl, rfl, rfl, rfl, rfl, rfl⟩ := hH
        simp [Leaves, settle, results, Tryz.results77, go_sem, d0, d1, d2, d3, d4, d5, d6, d7, d8, d9, he0]
        exact hB8
      | false =>
        refine (idle_no k (w.heap.size + 1) w.heap.size (by omega) c _ hbk.2.1 hbk.1 HIS.out (TabW.below hTab hbk.2.2)).mono ?_
        rintro e u' w8 ⟨rfl, rfl, hE8, hI8, hp8⟩
        have hB8 := hp8.below w hbk.2.2 (Nat.le_refl _) (by omega)
        have hH := hHH.out
        rw [if_neg (by decide)] at hH
        obtain ⟨d0, d1, d2, d3, d4, d5, d6, d7, d8, d9⟩ := cells10_ (show w8.heap[w.heap.size]? = some (.cells #[.int .i64 0, .int .i64 0, .int .i64 0, .int .i64 0, .int .i64 0, .int .i64 0, .int .u64 0, .int .i64 0, .int .i64 0, .int .i64 0] 148 (0, 0)) from hI8)
        have he0 : w8.cell? ⟨w.heap.size + 1, 0, none⟩ = some (.int .i64 11) := (blk_cell hE8 0).trans rfl
        simp only [tup, CI.zero, Option.some.injEq, Prod.mk.injEq] at hH
        obtain ⟨rfl, rfl, rfl, rfl, rfl, rfl, rfl, rfl, rfl, rfl, rfl⟩ := hH
        simp [Leaves, settle, results, Tryz.results77, go_sem, d0, d1, d2, d3, d4, d5, d6, d7, d8, d9, he0]
        exact hB8
    | succ kq =>
      have hi : i < pds.length := by omega
      have HIK := aq hik
      obtain ⟨p, hp⟩ : ∃ p, pds[i]? = some p := ⟨pds[i], List.getElem?_eq_getElem hi⟩
      have hdrop : pds.drop i = p :: pds.drop (i + 1) := by rw [List.drop_eq_getElem_cons hi]; congr 1; rw [List.getElem?_eq_getElem hi] at hp; exact Option.some.inj hp
      have hF := HF.out
      rw [hdrop] at hF
      clear hdrop HF
      obtain ⟨q, hq, hF⟩ := Option.bind_eq_some_iff.mp hF
      by_cases hq2 : ¬ q.2 = 0
      · rw [if_neg hq2] at hF; cases hF
      have hq2 := Decidable.not_not.mp hq2
      rw [if_pos hq2] at hF
      obtain ⟨q1, q2⟩ := q
      simp only at hq2 hF
      subst hq2
      obtain ⟨v, hv, hF⟩ := Option.bind_eq_some_iff.mp hF
      obtain ⟨⟨e1, c1, t1⟩, hput, hF⟩ := Option.bind_eq_some_iff.mp hF
      have hA := HN.out (by intro e; rw [e] at hi; simp at hi)
      subst hA
      obtain ⟨f, hf⟩ := HROW.out.get hp
      rw [show 0 + 5 * i = i * 5 by omega] at hf
      obtain ⟨c0, c1_, c2, c3, c4, hok⟩ := hf
      have hR := (HW.out.block R (World.block_lt_of_cell? w3 _ c0) (by have := HR.out; omega) (Ne.symm HTR.out))
      replace c0 := (World.cell?_of_block (w := w3) hR).trans c0
      replace c1_ := (World.cell?_of_block (w := w3) hR).trans c1_
      replace c2 := (World.cell?_of_block (w := w3) hR).trans c2
      replace c3 := (World.cell?_of_block (w := w3) hR).trans c3
      replace c4 := (World.cell?_of_block (w := w3) hR).trans c4
      have hpv : PutV wr T (w.heap.size + 2) p (.func (.func f.pf) #[] f.pc) := hok.put.move (fun B h1 h2 h3 => HW.out.block B h2 (by omega) h3) (HFAR.out p (List.mem_of_getElem? hp))
      have hTo : ∀ j, p = .mk j → ToldIs wr T t.t0 t.t1 t.t2 := fun j e => HTo.out ⟨j, e ▸ List.mem_of_getElem? hp⟩
      have HPV := aq hpv
      have HTo1 := aq hTo
      have HV := aq hv
      have HPUT := aq hput
      have HF := aq hF
      have HQ := aq hq
      have hent := put_enters hpv
      have hform := put_form hpv
      clear hok hR hTo hv hput hF hq hpv hp
      obtain ⟨fg, fgc, ff, fc⟩ := f
      generalize p.sg_ = sg at *
      simp only at hform hent
      cases sg with
      | true =>
        have hv := HV.out
        rw [if_pos rfl] at hv
        obtain ⟨⟨s1, s2⟩, hs, hv⟩ := Option.bind_eq_some_iff.mp hv
        simp only at hv
        by_cases h0 : ¬ s2 = 0
        · rw [if_neg h0] at hv; cases hv
        have h0 := Decidable.not_not.mp h0
        rw [if_pos h0] at hv
        subst h0
        obtain rfl := Option.some.inj hv
        have HSG := aq hs
        clear hs hv
        rcases hform with rfl | ⟨g1, rfl⟩ | ⟨g1, g2, rfl⟩
        all_goals
          go_wp2_with (first | (go_at_call 101; refine (bits_Field.calls _ _ _ _ _ _ HQ.out).mono ?_; rintro e w5 ⟨rfl, hd⟩; obtain ⟨nd, rfl⟩ := hd.out; clear hd) | (go_at_call 102; refine (code_must.ok _).mono ?_; rintro e w6 ⟨rfl, rfl⟩) | (go_at_call 103; refine (bits_Signed.calls _ _ _ _ _ _ HSG.out).mono ?_; rintro e w7 ⟨rfl, hd⟩; obtain ⟨ne, rfl⟩ := hd.out; clear hd))
          by_cases he : e1 = 0
          · subst he
            have hF := HF.out
            rw [if_pos rfl] at hF
            have HF2 := aq hF
            clear hF
            refine (put_ok_at k p ff _ _ c c1 t t1 _ wr _ w.heap.size T (w.heap.size + 2) HPV.out HI.out hIT HTo1.out HPUT.out rfl (by repeat (first | exact Below.refl _ _ | apply pw_below_drewN | apply below_drew1 | apply below_drew | apply below_alloc))).mono ?_
            rintro e w9 ⟨rfl, h1, h2, h3⟩
            have HI9 := aq h2
            have HP9 := aq h1
            have HT9 := aq h3
            clear h1 h2 h3
            go_wp2
            go_roundg kq
            case measure => omega
            case rel => exact ⟨i + 1, c1, t1, by rw [show wrap64 ((i : Int) + 1) = ((i + 1 : Nat) : Int) by unfold wrap64; have h5 := HL5.out; have h6 := HIK.out; omega], by have := HIK.out; omega, HF2, HI9, ⟨HW.out.trans HP9.out⟩, ⟨fun hm => HT9.out (HTo.out hm)⟩⟩
          · have hF := HF.out
            rw [if_neg he] at hF
            simp only [Option.some.injEq, Prod.mk.injEq] at hF
            obtain ⟨rfl, rfl⟩ := hF
            have hH := HH.out
            rw [if_neg he] at hH
            refine (put_bad_at k p ff _ _ c c1 t t1 _ e1 wr _ w.heap.size T (w.heap.size + 2) HPV.out HI.out hIT HTo1.out HPUT.out he rfl (by repeat (first | exact Below.refl _ _ | apply pw_below_drewN | apply below_drew1 | apply below_drew | apply below_alloc))).mono ?_
            rintro e w9 ⟨rfl, h1, h2⟩
            have hlE := (Array.getElem?_eq_some_iff.1 HE.out).1
            have hE9 := (h1.block (w.heap.size + 1) hlE (by omega) (by have := HT.out; omega)).trans HE.out
            have hB9 := h1.below w (HW.out.below w HB3.out (Nat.le_refl _) (by have := HT.out; omega)) (Nat.le_refl _) (by have := HT.out; omega)
            refine leaves_cons (f := 96) (args := #[.pointer (some ⟨w.heap.size + 1, 0, none⟩), .pointer (some ⟨w.heap.size, 0, none⟩)]) (by simp) (by simp [go_sem]) ?_
            refine (catch_err (w.heap.size + 1) w.heap.size (by omega) e1 0 c1 [] _ hE9 h2).mono ?_
            rintro e u' w8 ⟨rfl, rfl, hE8, hI8, hp8⟩
            have hB8 := hp8.below w hB9 (Nat.le_refl _) (by omega)
            obtain ⟨d0, d1, d2, d3, d4, d5, d6, d7, d8, d9⟩ := cells10_ (show w8.heap[w.heap.size]? = some (.cells #[.int .i64 0, .int .i64 0, .int .i64 0, .int .i64 0, .int .i64 0, .int .i64 0, .int .u64 0, .int .i64 0, .int .i64 0, .int .i64 0] 148 (0, 0)) from hI8)
            have he0 : w8.cell? ⟨w.heap.size + 1, 0, none⟩ = some (.int .i64 11) := (blk_cell hE8 0).trans rfl
            simp only [tup, CI.zero, Option.some.injEq, Prod.mk.injEq] at hH
            obtain ⟨rfl, rfl, rfl, rfl, rfl, rfl, rfl, rfl, rfl, rfl, rfl⟩ := hH
            simp [Leaves, settle, results, Tryz.results77, go_sem, d0, d1, d2, d3, d4, d5, d6, d7, d8, d9, he0]
            exact hB8
      | false =>
        have hv := HV.out
        rw [if_neg (by decide)] at hv
        obtain rfl := Option.some.inj hv
        clear hv HV
        rcases hform with rfl | ⟨g1, rfl⟩ | ⟨g1, g2, rfl⟩
        all_goals
          go_wp2_with (first | (go_at_call 101; refine (bits_Field.calls _ _ _ _ _ _ HQ.out).mono ?_; rintro e w5 ⟨rfl, hd⟩; obtain ⟨nd, rfl⟩ := hd.out; clear hd) | (go_at_call 102; refine (code_must.ok _).mono ?_; rintro e w6 ⟨rfl, rfl⟩))
          by_cases he : e1 = 0
          · subst he
            have hF := HF.out
            rw [if_pos rfl] at hF
            have HF2 := aq hF
            clear hF
            refine (put_ok_at k p ff _ _ c c1 t t1 _ wr _ w.heap.size T (w.heap.size + 2) HPV.out HI.out hIT HTo1.out HPUT.out rfl (by repeat (first | exact Below.refl _ _ | apply pw_below_drewN | apply below_drew1 | apply below_drew | apply below_alloc))).mono ?_
            rintro e w9 ⟨rfl, h1, h2, h3⟩
            have HI9 := aq h2
            have HP9 := aq h1
            have HT9 := aq h3
            clear h1 h2 h3
            go_wp2
            go_roundg kq
            case measure => omega
            case rel => exact ⟨i + 1, c1, t1, by rw [show wrap64 ((i : Int) + 1) = ((i + 1 : Nat) : Int) by unfold wrap64; have h5 := HL5.out; have h6 := HIK.out; omega], by have := HIK.out; omega, HF2, HI9, ⟨HW.out.trans HP9.out⟩, ⟨fun hm => HT9.out (HTo.out hm)⟩⟩
          · have hF := HF.out
            rw [if_neg he] at hF
            simp only [Option.some.injEq, Prod.mk.injEq] at hF
            obtain ⟨rfl, rfl⟩ := hF
            have hH := HH.out
            rw [if_neg he] at hH
            refine (put_bad_at k p ff _ _ c c1 t t1 _ e1 wr _ w.heap.size T (w.heap.size + 2) HPV.out HI.out hIT HTo1.out HPUT.out he rfl (by repeat (first | exact Below.refl _ _ | apply pw_below_drewN | apply below_drew1 | apply below_drew | apply below_alloc))).mono ?_
            rintro e w9 ⟨rfl, h1, h2⟩
            have hlE := (Array.getElem?_eq_some_iff.1 HE.out).1
            have hE9 := (h1.block (w.heap.size + 1) hlE (by omega) (by have := HT.out; omega)).trans HE.out
            have hB9 := h1.below w (HW.out.below w HB3.out (Nat.le_refl _) (by have := HT.out; omega)) (Nat.le_refl _) (by have := HT.out; omega)
            refine leaves_cons (f := 96) (args := #[.pointer (some ⟨w.heap.size + 1, 0, none⟩), .pointer (some ⟨w.heap.size, 0, none⟩)]) (by simp) (by simp [go_sem]) ?_
            refine (catch_err (w.heap.size + 1) w.heap.size (by omega) e1 0 c1 [] _ hE9 h2).mono ?_
            rintro e u' w8 ⟨rfl, rfl, hE8, hI8, hp8⟩
            have hB8 := hp8.below w hB9 (Nat.le_refl _) (by omega)
            obtain ⟨d0, d1, d2, d3, d4, d5, d6, d7, d8, d9⟩ := cells10_ (show w8.heap[w.heap.size]? = some (.cells #[.int .i64 0, .int .i64 0, .int .i64 0, .int .i64 0, .int .i64 0, .int .i64 0, .int .u64 0, .int .i64 0, .int .i64 0, .int .i64 0] 148 (0, 0)) from hI8)
            have he0 : w8.cell? ⟨w.heap.size + 1, 0, none⟩ = some (.int .i64 11) := (blk_cell hE8 0).trans rfl
            simp only [tup, CI.zero, Option.some.injEq, Prod.mk.injEq] at hH
            obtain ⟨rfl, rfl, rfl, rfl, rfl, rfl, rfl, rfl, rfl, rfl, rfl⟩ := hH
            simp [Leaves, settle, results, Tryz.results77, go_sem, d0, d1, d2, d3, d4, d5, d6, d7, d8, d9, he0]
            exact hB8
end Go.Proofs.YtflojfcioojgbaaGreatDoor.P
