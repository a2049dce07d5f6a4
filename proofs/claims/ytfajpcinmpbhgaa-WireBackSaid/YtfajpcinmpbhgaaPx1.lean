/- Written for this claim by a program of this session (drive.py, over the print of the kit): Lean functions with the answers of Go functions, and the proofs that the Go code comes to these answers, under no condition but the readings of the arguments that each theorem names. -/
import Derived.Test.YtfajpcinmpbhgaaPx0
namespace Go.Proofs.Ytfajpcinmpbhgaa.P
open Go.RowKit Go.Proofs.YtfajpcinmpbhgaaW.PrintWords Go.Proofs.YtfajpcinmpbhgaaW.PrintLast Go.Proofs.YtfajpcinmpbhgaaW.PrintMore
attribute [local go_sem] max2_int min2_int max_two min_two max_three min_three max_four min_four   -- for this text's walks alone
set_option linter.unusedVariables false
set_option linter.unusedSimpArgs false

-- NOT PRINTED: function 26 (wire_digits)

-- NOT PRINTED: function 21 (wire_writer_number)

/-! ### wire_Put: function 8 -/
/-! strings.Builder in whatever block (type T, cells behind it): contracts of this session's own -/
theorem bld_infoByte : (Try.prog.info? 5).map (fun i => (i.zero, i.size, i.bytes)) = some (some (.int .u8 0), 1, 1) := by kernel_rfl
theorem bld_sizeB : (Try.prog.info? 42).map (·.size) = some 2 := by kernel_rfl
theorem bld_cellsByte : Try.prog.cellsOf 5 = 1 := by kernel_rfl
/-- A builder at the head of block b (of type T, the cells 'rest' behind it) that holds the bytes bs. -/
def BldAt (T : TypeId) (rest : List Value) (B b : Nat) (p : Value) (bs : List Value) (w : World) : Prop :=
  B ≤ b ∧ ∃ v, w.heap[b]? = some (.cells ⟨p :: v :: rest⟩ T (0, 0)) ∧ w.ownsRow B 5 1 v bs.length bs ∧ v.ownBlock ≠ some b
def Bld (T : TypeId) (rest : List Value) (B b : Nat) (bs : List Value) (w : World) : Prop :=
  BldAt T rest B b (.pointer none) bs w ∨ BldAt T rest B b (.pointer (some ⟨b, 0, none⟩)) bs w
theorem BldAt.blk {T : TypeId} {rest : List Value} {B b : Nat} {p : Value} {bs : List Value} {w : World} (h : BldAt T rest B b p bs w) : ∃ v, w.heap[b]? = some (.cells ⟨p :: v :: rest⟩ T (0, 0)) := ⟨_, h.2.choose_spec.1⟩
theorem bld_new (T : TypeId) (rest : List Value) (w : World) : Bld T rest w.heap.size w.heap.size [] (w.alloc (.cells ⟨.pointer none :: .slice none 0 0 :: rest⟩ T)) :=
  .inl ⟨Nat.le_refl _, .slice none 0 0, (by show (w.heap.push _)[w.heap.size]? = _; simp), ⟨rfl, .inl ⟨rfl, rfl⟩⟩, by simp [Value.ownBlock]⟩
theorem bld_some {T : TypeId} {rest : List Value} {B b : Nat} {bs : List Value} {w : World} (h : Bld T rest B b bs w) : ∃ p, BldAt T rest B b p bs w := by
  rcases h with h | h <;> exact ⟨_, h⟩
/-- The builder's block and its row stand: it is what it was. -/
theorem BldAt.move {T : TypeId} {rest : List Value} {B b : Nat} {p : Value} {bs : List Value} {w w1 : World} (h : BldAt T rest B b p bs w) (hm : ∀ k, B ≤ k → (k = b ∨ ∃ c, w.heap[k]? = some (.cells c 5 (0, 0))) → w1.heap[k]? = w.heap[k]?) : BldAt T rest B b p bs w1 := by
  obtain ⟨hB, v, hb, hown, hne⟩ := h
  refine ⟨hB, v, (hm b hB (.inl rfl)).trans hb, own_move hown fun k hk => ?_, hne⟩
  obtain ⟨c, hc⟩ := own_typed hown k hk
  exact hm k (own_base hown k hk) (.inr ⟨c, hc⟩)
theorem Bld.move {T : TypeId} {rest : List Value} {B b : Nat} {bs : List Value} {w w1 : World} (h : Bld T rest B b bs w) (hm : ∀ k, B ≤ k → (k = b ∨ ∃ c, w.heap[k]? = some (.cells c 5 (0, 0))) → w1.heap[k]? = w.heap[k]?) : Bld T rest B b bs w1 := by
  rcases h with h | h
  · exact .inl (h.move hm)
  · exact .inr (h.move hm)
theorem Bld.below {T : TypeId} {rest : List Value} {B b : Nat} {bs : List Value} {w w1 : World} (h : Bld T rest B b bs w) (hb : Below w.heap.size w w1) : Bld T rest B b bs w1 := by
  refine h.move fun k _ hk => hb.block k ?_
  rcases hk with rfl | ⟨c, hc⟩
  · obtain ⟨p, h⟩ := bld_some h
    obtain ⟨v, hv⟩ := h.blk
    exact (Array.getElem?_eq_some_iff.1 hv).1
  · exact (Array.getElem?_eq_some_iff.1 hc).1
set_option maxHeartbeats 1000000 in
set_option maxRecDepth 100000 in
theorem bld_check {T : TypeId} {rest : List Value} (hlies : liesAt Try.prog Try.prog.depth T ((rest.length + 2) / Try.prog.cellsOf T) 0 42 1 = true) (B b : Nat) (bs : List Value) (w : World) (h : Bld T rest B b bs w) :
    Calls Try.prog 28 #[.pointer (some ⟨b, 0, none⟩)] w fun e w' => e = .returned (.tuple #[]) ∧ (BldAt T rest B b (.pointer (some ⟨b, 0, none⟩)) bs w' ∧ Below B w w' ∧ Lib.OthersKept 5 (some b) w w') := by
  obtain ⟨j, hj, hjs⟩ := Option.map_eq_some_iff.1 bld_sizeB
  rcases h with h | h
  · obtain ⟨hB, v, hbk, hown, hne⟩ := h
    have h0 : w.cell? ⟨b, 0, none⟩ = some (.pointer none) := by rw [Lib.cell_of_heap hbk]; rfl
    have hsh : w.shape? b = some (T, rest.length + 2) := by simp [World.shape?, hbk]
    have hfz : w.frozen? ⟨b, 0, none⟩ = false := Lib.frozen_of_heap hbk 0
    go_enter Try.func28, Try.ntmps28
    go_wp2
    rw [Lib.run_to_unsafe w ⟨b, 0, none⟩ Try.underlying39 Try.underlying62 hj (by rw [hjs]; decide) hsh (Nat.zero_lt_succ _)]
    simp only [Result.andThen]
    rw [Oper.upon_value]
    go_wp2
    rw [run_callFunc_extern Try.func30 (by kernel_rfl) (by kernel_rfl) (by kernel_rfl) (e := Extern.AbiNoEscape.same) (by kernel_rfl)]
    rw [Lib.run_noEscape]
    simp only [Result.andThen]
    rw [Oper.upon_value]
    go_wp2
    rw [Lib.run_from_unsafe w ⟨b, 0, none⟩ Try.underlying62 Try.underlying39 hj hsh hlies]
    simp only [Result.andThen]
    rw [Oper.upon_value]
    go_wp2
    go_end0
    refine ⟨rfl, ⟨hB, v, ?_, ?_, hne⟩, (Below.refl B w).setCell (p := ⟨b, 0, none⟩) hB _, (Lib.OthersKept.refl _ _ w).setCell ⟨b, 0, none⟩ rfl _⟩
    · simp [World.setCell, Array.getElem?_modify, hbk]
    · exact hown.kept (row := some b) ⟨rfl, rfl, rfl, by simp [World.setCell], fun k _ hk => Below.heap_setCell _ _ _ _ (fun e => hk (by simp [e]))⟩ (Or.inr hne)
  · have h' := h
    obtain ⟨hB, v, hbk, hown, hne⟩ := h'
    have h0 : w.cell? ⟨b, 0, none⟩ = some (.pointer (some ⟨b, 0, none⟩)) := by rw [Lib.cell_of_heap hbk]; rfl
    go_enter Try.func28, Try.ntmps28
    go_wp2
    rw [Lib.run_neq_ptr_same w _ Try.underlying39 hj]
    go_wp2
    go_end0
    exact ⟨rfl, h, Below.refl B _, Lib.OthersKept.refl _ _ _⟩
theorem bld_put {T : TypeId} {rest : List Value} {B b : Nat} {p v v' : Value} {bs' : List Value} {w : World} (hB : B ≤ b) (hb : w.heap[b]? = some (.cells ⟨p :: v :: rest⟩ T (0, 0))) (hown : w.ownsRow B 5 1 v' bs'.length bs') (hTe : T ≠ 5) :
    BldAt T rest B b p bs' (w.setCell ⟨b, 1, none⟩ v') := by
  have hne := Lib.ownBlock_ne hown hb hTe
  refine ⟨hB, v', ?_, ?_, hne⟩
  · simp [World.setCell, Array.getElem?_modify, hb]
  · exact hown.kept (row := some b) ⟨rfl, rfl, rfl, by simp [World.setCell], fun k _ hk => Below.heap_setCell _ _ _ _ (fun e => hk (by simp [e]))⟩ (Or.inr hne)
theorem own_kind {w : World} {B : Nat} {e : TypeId} {v : Value} {n : Nat} {xs : List Value} (h : w.ownsRow B e 1 v n xs) : ∀ g, v.ownBlock = some g → ∃ c fz, w.heap[g]? = some (.cells c e fz) := fun g hg => by
  obtain ⟨c, hc⟩ := own_typed h g hg
  exact ⟨c, _, hc⟩
set_option maxHeartbeats 2000000 in
set_option maxRecDepth 100000 in
theorem bld_writeByte {T : TypeId} {rest : List Value} (hT : T ≠ 5) (hlies : liesAt Try.prog Try.prog.depth T ((rest.length + 2) / Try.prog.cellsOf T) 0 42 1 = true) (B b : Nat) (bs : List Value) (c : Int) (w : World) (h : Bld T rest B b bs w) (hlen : bs.length + 1 ≤ 140737488355328) (hBw : B ≤ w.heap.size) :
    Calls Try.prog 27 #[.pointer (some ⟨b, 0, none⟩), .int .u8 c] w fun e w' => e = .returned .nilIface ∧ (BldAt T rest B b (.pointer (some ⟨b, 0, none⟩)) (bs ++ [.int .u8 c]) w' ∧ Below B w w' ∧ Lib.OthersKept 5 (some b) w w') := by
  obtain ⟨i0, hi, hz0, hz1, hz2⟩ := info_parts bld_infoByte
  go_enter Try.func27, Try.ntmps27
  go_wp2_with (go_at_call 28; refine (bld_check hlies B b bs _ h).mono ?_)
  rintro e w1 ⟨rfl, h1, hb1, hk1⟩
  obtain ⟨hB, v, hbk, hown, hne⟩ := h1
  have c0 : w1.cell? ⟨b, 0, none⟩ = some (.pointer (some ⟨b, 0, none⟩)) := by rw [Lib.cell_of_heap hbk]; rfl
  have c1 : w1.cell? ⟨b, 1, none⟩ = some v := by rw [Lib.cell_of_heap hbk]; rfl
  go_wp2_with (at_builtin; refine wpList_append_own _ rfl _ _ 40 rfl B 5 i0 (.int .u8 0) 1 1 Try.underlying40 hi hz0 hz1 hz2 rfl (by decide) _ _ _ rfl (hown.alloc _) ⟨w1.heap.size, 0, none⟩ 1 1 [.int .u8 c] rfl rfl ?c1 ?c2 ?c3 ?c4 ?c5 ?_)
  case c1 =>
    intro j u hj
    match j, hj with
    | 0, hj => simp at hj; subst hj; simp [Addr.add]
  case c2 => intro u hu; simp at hu; subst hu; rfl
  case c3 => unfold maxLen; omega
  case c4 => omega
  case c5 => have := hb1.size; simp; omega
  intro v' w2 hown' hgrow _
  have hlt : b < w1.heap.size := (Array.getElem?_eq_some_iff.1 hbk).1
  have hb2 : w2.heap[b]? = some (.cells ⟨.pointer (some ⟨b, 0, none⟩) :: v :: rest⟩ T (0, 0)) := by
    rw [hgrow.block b (by simp; omega) (fun e => hne e.symm), Lib.alloc_old w1 _ b hlt]
    exact hbk
  have d0 : w2.cell? ⟨b, 0, none⟩ = some (.pointer (some ⟨b, 0, none⟩)) := by rw [Lib.cell_of_heap hb2]; rfl
  have d1 : w2.cell? ⟨b, 1, none⟩ = some v := by rw [Lib.cell_of_heap hb2]; rfl
  have f1 : w2.frozen? ⟨b, 1, none⟩ = false := Lib.frozen_of_heap hb2 1
  obtain ⟨g, cap, rfl⟩ : ∃ g cap, v' = .slice (some ⟨g, 0, none⟩) (bs.length + 1) cap := by
    rcases hown'.2 with ⟨_, h0⟩ | ⟨g, cap, cur, hv, _⟩
    · omega
    · exact ⟨g, cap, hv⟩
  go_wp2
  go_ret
  refine ⟨rfl, ?_, ?_, ((hk1.alloc _).grown hgrow (own_kind (hown.alloc _))).setCell ⟨b, 1, none⟩ rfl _⟩
  · exact bld_put hB hb2 (bs' := bs ++ [.int .u8 c]) (by simpa using hown') hT
  · exact ((hb1.alloc (by have := hb1.size; omega) _).grown hgrow (by have := hb1.size; simp; omega) (fun k hk => (hown.lt k hk).1)).setCell (p := ⟨b, 1, none⟩) hB _
set_option maxHeartbeats 2000000 in
set_option maxRecDepth 100000 in
theorem bld_writeString {T : TypeId} {rest : List Value} (hT : T ≠ 5) (hlies : liesAt Try.prog Try.prog.depth T ((rest.length + 2) / Try.prog.cellsOf T) 0 42 1 = true) (B b : Nat) (bs : List Value) (s : ByteArray) (w : World) (h : Bld T rest B b bs w) (hlen : bs.length + s.size ≤ 140737488355328) (hBw : B ≤ w.heap.size) :
    Calls Try.prog 23 #[.pointer (some ⟨b, 0, none⟩), .string s] w fun e w' => e = .returned (.tuple #[.int .i64 s.size, .nilIface]) ∧ (BldAt T rest B b (.pointer (some ⟨b, 0, none⟩)) (bs ++ Lib.strCells s) w' ∧ Below B w w' ∧ Lib.OthersKept 5 (some b) w w') := by
  obtain ⟨i0, hi, hz0, hz1, hz2⟩ := info_parts bld_infoByte
  go_enter Try.func23, Try.ntmps23
  go_wp2_with (go_at_call 28; refine (bld_check hlies B b bs _ h).mono ?_)
  rintro e w1 ⟨rfl, h1, hb1, hk1⟩
  obtain ⟨hB, v, hbk, hown, hne⟩ := h1
  have c0 : w1.cell? ⟨b, 0, none⟩ = some (.pointer (some ⟨b, 0, none⟩)) := by rw [Lib.cell_of_heap hbk]; rfl
  have c1 : w1.cell? ⟨b, 1, none⟩ = some v := by rw [Lib.cell_of_heap hbk]; rfl
  go_wp2_with (at_builtin; refine Lib.wpList_append_own_string _ rfl _ _ 40 9 rfl B 5 i0 Try.underlying40 Try.underlying9 hi hz0 hz1 hz2 _ _ _ rfl hown s rfl ?c3 ?c4 ?c5 ?_)
  case c3 => unfold maxLen; omega
  case c4 => omega
  case c5 => have := hb1.size; omega
  intro v' w2 hown' hgrow _
  have hlt : b < w1.heap.size := (Array.getElem?_eq_some_iff.1 hbk).1
  have hb2 : w2.heap[b]? = some (.cells ⟨.pointer (some ⟨b, 0, none⟩) :: v :: rest⟩ T (0, 0)) := by
    rw [hgrow.block b hlt (fun e => hne e.symm)]
    exact hbk
  have d0 : w2.cell? ⟨b, 0, none⟩ = some (.pointer (some ⟨b, 0, none⟩)) := by rw [Lib.cell_of_heap hb2]; rfl
  have d1 : w2.cell? ⟨b, 1, none⟩ = some v := by rw [Lib.cell_of_heap hb2]; rfl
  have f1 : w2.frozen? ⟨b, 1, none⟩ = false := Lib.frozen_of_heap hb2 1
  obtain ⟨ao, n', cap, rfl⟩ : ∃ ao n' cap, v' = .slice ao n' cap := by
    rcases hown'.2 with ⟨hv, _⟩ | ⟨g, cap, cur, hv, _⟩
    · exact ⟨_, _, _, hv⟩
    · exact ⟨_, _, _, hv⟩
  go_wp2
  go_ret2
  refine ⟨rfl, ?_, ?_, (hk1.grown hgrow (own_kind hown)).setCell ⟨b, 1, none⟩ rfl _⟩
  · exact bld_put hB hb2 (bs' := bs ++ Lib.strCells s) (by rw [List.length_append, Lib.strCells_length]; exact hown') hT
  · exact (hb1.grown hgrow (by have := hb1.size; omega) (fun k hk => (hown.lt k hk).1)).setCell (p := ⟨b, 1, none⟩) hB _
set_option maxHeartbeats 1000000 in
set_option maxRecDepth 100000 in
theorem bld_string {T : TypeId} {rest : List Value} (B b : Nat) (l : List UInt8) (w : World) (h : Bld T rest B b (Lib.byteCells l) w) (h0 : l ≠ []) :
    Calls Try.prog 22 #[.pointer (some ⟨b, 0, none⟩)] w fun e w' => e = .returned (.string ⟨l.toArray⟩) ∧ Below B w w' := by
  obtain ⟨p, hB, v, hbk, hown, hne⟩ := bld_some h
  have hl0 : l.length ≠ 0 := by simpa using h0
  rw [Lib.byteCells_length] at hown
  obtain ⟨g, cap, cur, rfl, hbg, hg, hnc, hcm, hcs, htake⟩ : ∃ g cap cur, v = .slice (some ⟨g, 0, none⟩) l.length cap ∧ B ≤ g ∧ w.heap[g]? = some (.cells cur 5 (0, 0)) ∧ l.length ≤ cap ∧ cap ≤ maxLen ∧ cur.size = cap * 1 ∧ cur.toList.take (l.length * 1) = Lib.byteCells l := by
    rcases hown.2 with ⟨_, hz⟩ | ⟨g, cap, cur, hv, r⟩
    · exact absurd hz hl0
    · exact ⟨g, cap, cur, hv, r⟩
  have c1 : w.drew.cell? ⟨b, 1, none⟩ = some (.slice (some ⟨g, 0, none⟩) l.length cap) := by
    have : w.drew.heap[b]? = some (.cells ⟨p :: .slice (some ⟨g, 0, none⟩) l.length cap :: rest⟩ T (0, 0)) := hbk
    rw [Lib.cell_of_heap this]; rfl
  have hSD : (Builtin.unsafeSliceData_ #[40] 60 #[.slice (some ⟨g, 0, none⟩) l.length cap]).run Try.prog w.drew = .ok (.pointer (some ⟨g, 0, none⟩)) w.drew :=
    Lib.run_unsafeSliceData_row _ _ _ _ _ _ (by omega)
  have hUS : (Builtin.unsafeString_ #[60, 3] 9 #[.pointer (some ⟨g, 0, none⟩), .int .i64 l.length]).run Try.prog w.drew = .ok (.string ⟨l.toArray⟩) (w.drew.freeze ⟨g, 0, none⟩ l.length) := by
    refine Lib.run_unsafeString_row w.drew 60 3 9 5 Try.underlying60 bld_cellsByte g cur.size (by have hg' : w.drew.heap[g]? = some (.cells cur 5 (0, 0)) := hg; simp [World.shape?, hg']) l h0 (by omega) (by unfold maxLen at hcm; omega) ?_
    intro j x hx
    have := hown.cells (g := g) rfl j (.int .u8 x.toNat) (by simp [Lib.byteCells, hx])
    exact this
  go_enter Try.func22, Try.ntmps22
  go_wp2
  go_region
  all_goals (go_wp2; go_ret; exact ⟨rfl, Lib.below_freeze (Below.drew (Below.refl B w)) (p := ⟨g, 0, none⟩) hbg _⟩)

/-- The bytes of a number: seven bits each, the lowest ones first. -/
def wire_putL (v : Nat) : List UInt8 := if h : v < 128 then [UInt8.ofNat v] else UInt8.ofNat (v % 128 + 128) :: wire_putL (v / 128)
  termination_by v
  decreasing_by omega
theorem wire_putL_less (v : Nat) (h : v < 128) : wire_putL v = [UInt8.ofNat v] := by rw [wire_putL, dif_pos h]
theorem wire_putL_more (v : Nat) (h : ¬ v < 128) : wire_putL v = UInt8.ofNat (v % 128 + 128) :: wire_putL (v / 128) := by rw [wire_putL, dif_neg h]
theorem wire_putL_ne (v : Nat) : wire_putL v ≠ [] := by
  by_cases h : v < 128
  · rw [wire_putL_less v h]; simp
  · rw [wire_putL_more v h]; simp
theorem wire_putL_len : ∀ (n v : Nat), v < 2 ^ (7 * n) → (wire_putL v).length ≤ n ∨ v = 0
  | 0, v, h => .inr (by simpa using h)
  | n + 1, v, h => by
    by_cases h1 : v < 128
    · rw [wire_putL_less v h1]; left; simp
    · rw [wire_putL_more v h1]
      left
      have e : (2 : Nat) ^ (7 * (n + 1)) = 128 * 2 ^ (7 * n) := by rw [Nat.mul_add, Nat.pow_add, Nat.mul_comm]
      rcases wire_putL_len n (v / 128) (by omega) with h2 | h2
      · simp; omega
      · omega
theorem wire_putL_ten (v : Nat) (h : v < 18446744073709551616) : (wire_putL v).length ≤ 10 := by
  have e : (2 : Nat) ^ (7 * 10) = 1180591620717411303424 := by decide
  have h70 : v < 2 ^ (7 * 10) := by omega
  rcases wire_putL_len 10 v h70 with h | rfl
  · exact h
  · rw [wire_putL_less 0 (by decide)]; simp
def wire_mk (d : Nat) (more : Bool) : Nat := if more = true then d + 128 else d
theorem wire_or_fin : ∀ d : Fin 128, Go.bits .or .u8 (d.val : Int) 128 = ((d.val + 128 : Nat) : Int) := by decide +kernel
/-- Between two rounds of a writer's number: what cells hold. -/
def NumJ (b B : Nat) (bs : List Value) (w0 : World) (v : Nat) (o : Obj) (y : Nat) (out r : List UInt8) (W : World) : Prop :=
  wire_putL v = out ++ r ∧ y < 18446744073709551616 ∧ Bld 44 [] B b (bs ++ Lib.byteCells out) W ∧ W.heap[w0.heap.size]? = some (.cells #[.pointer (some ⟨b, 0, none⟩)] 55 (0, 0)) ∧
  W.heap[w0.heap.size + 1]? = some (.cells #[.int .u64 y] 22 (0, 0)) ∧ W.heap[w0.heap.size + 2]? = some (.deferred (some [])) ∧ W.heap[w0.heap.size + 3]? = some o ∧ Below B w0 W
theorem NumJ.set {b B : Nat} {bs : List Value} {w0 : World} {v : Nat} {o : Obj} {y z : Nat} {out r : List UInt8} {W : World} (h : NumJ b B bs w0 v o y out r W) (hz : z < 18446744073709551616) (hbw : b < w0.heap.size) (hB : B ≤ b) :
    NumJ b B bs w0 v o z out r (W.setCell ⟨w0.heap.size + 1, 0, none⟩ (.int .u64 z)) := by
  obtain ⟨h1, h2, h3, h4, h5, h6, h7, h8⟩ := h
  have other : ∀ k, k ≠ w0.heap.size + 1 → (W.setCell ⟨w0.heap.size + 1, 0, none⟩ (.int .u64 z)).heap[k]? = W.heap[k]? := fun k hk => Below.heap_setCell _ _ _ _ hk
  refine ⟨h1, hz, h3.move fun k _ hk => other k ?_, (other _ (by omega)).trans h4, ?_, (other _ (by omega)).trans h6, (other _ (by omega)).trans h7, h8.setCell (p := ⟨w0.heap.size + 1, 0, none⟩) (by show B ≤ w0.heap.size + 1; omega) _⟩
  · rintro rfl
    rcases hk with e | ⟨c, hc⟩
    · omega
    · rw [h5] at hc
      simp at hc
  · simp [World.setCell, Array.getElem?_modify, h5]
set_option maxHeartbeats 4000000 in
set_option maxRecDepth 100000 in
theorem wire_digits1 (F : Fence) (n : Nat) (hf : F.fn 29) (hro : F.round = none) (hn : 1 ≤ n) (b B : Nat) (bs : List Value) (w0 : World) (v : Nat) (hv : v < 18446744073709551616) (o : Obj) (hbw : b < w0.heap.size) (hB : B ≤ b)
    (hY : ∀ (y d : Nat) (more : Bool) (out r : List UInt8) (W : World), d < 128 → NumJ b B bs w0 v o y out (UInt8.ofNat (wire_mk d more) :: r) W →
      YieldAt F (n - 1) Try.prog (w0.heap.size + 3) #[.int .u8 d, .bool more] W fun e W' => e = .returned (.bool true) ∧ NumJ b B bs w0 v o y (out ++ [UInt8.ofNat (wire_mk d more)]) r W')
    (W : World) (hJ : NumJ b B bs w0 v o v [] (wire_putL v) W) :
    CallsIn F n Try.prog 29 #[.func (.yield (w0.heap.size + 3)) #[] #[], .pointer (some ⟨w0.heap.size + 1, 0, none⟩)] W fun e W' => (∃ x, e = .returned x) ∧ ∃ y, NumJ b B bs w0 v o y (wire_putL v) [] W' := by
  refine callsIn_of_wp Try.func29 rfl hf ?_ hro
  simp only [Try.ntmps29, List.size_toArray, List.length_cons, List.length_nil, Nat.reduceAdd, Nat.reduceSub, Array.replicate_succ, Array.replicate_zero, List.push_toArray, List.append_toArray, List.nil_append, List.cons_append]
  gi_wp2
  gi_loopw [3] (fun _ wr => ∃ (x : Nat) (out : List UInt8), NumJ b B bs w0 v o x out (wire_putL x) wr)
    (fun _ wr => match wr.cell? ⟨w0.heap.size + 1, 0, none⟩ with | some (.int _ x) => x.toNat | _ => 0)
  case atStart => exact ⟨v, [], hJ⟩
  case round =>
    obtain ⟨x, out, hx⟩ := hrel
    have hx5 := hx.2.2.2.2.1
    have hxl := hx.2.1
    have hc : wr.cell? ⟨w0.heap.size + 1, 0, none⟩ = some (.int .u64 x) := by rw [Lib.cell_of_heap hx5]; rfl
    by_cases hlt : x < 128
    · rw [wire_putL_less x hlt] at hx
      obtain ⟨fn, tmps, assign, body, hy, hR⟩ := hY x x false out [] wr hlt hx
      gi_wp2
      refine hR.mono ?_
      rintro e W1 ⟨rfl, hJ1⟩
      have e1 : out ++ [UInt8.ofNat (wire_mk x false)] = wire_putL v := hx.1.symm
      rw [e1] at hJ1
      gi_wp2
      go_end0
      exact ⟨⟨_, rfl⟩, x, hJ1⟩
    · rw [wire_putL_more x hlt] at hx
      obtain ⟨fn, tmps, assign, body, hy, hR⟩ := hY x (x % 128) true out (wire_putL (x / 128)) wr (Nat.mod_lt _ (by decide)) hx
      have ed : ((x % 128 : Nat) : Int) = (x : Int) % 128 := by omega
      rw [ed] at hy
      clear ed
      have HR := Aside0.mk hR
      clear hR
      gi_wp2
      refine HR.out.mono ?_
      rintro e W1 ⟨rfl, hJ1⟩
      have h15 := hJ1.2.2.2.2.1
      have hc1 : W1.cell? ⟨w0.heap.size + 1, 0, none⟩ = some (.int .u64 x) := by rw [Lib.cell_of_heap h15]; rfl
      have hf1 : W1.frozen? ⟨w0.heap.size + 1, 0, none⟩ = false := Lib.frozen_of_heap h15 0
      have hJ2 := Aside0.mk (hJ1.set (z := x / 128) (by omega) hbw hB)
      have hm : Aside0 ((W1.setCell ⟨w0.heap.size + 1, 0, none⟩ (.int .u64 ((x / 128 : Nat) : Int))).cell? ⟨w0.heap.size + 1, 0, none⟩ = some (.int .u64 ((x / 128 : Nat) : Int))) := ⟨World.cell?_setCell_same' _ _ _ (by rw [hc1]; rfl)⟩
      clear hJ1 h15
      gi_wp2
      go_roundw
      case rel => exact ⟨x / 128, _, by simpa using hJ2.out⟩
      case measure =>
        have hm := hm.out
        rw [Int.natCast_ediv] at hm
        have e1 : ((128 : Nat) : Int) = 128 := rfl
        rw [e1] at hm
        rw [hc, hm]
        show ((x : Int) / 128).toNat < (x : Int).toNat
        omega
theorem NumJ.putObj {b B : Nat} {bs : List Value} {w0 : World} {v : Nat} {o : Obj} {y : Nat} {out r : List UInt8} {W : World} (h : NumJ b B bs w0 v o y out r W) (o' : Obj) (hn : ∀ c t fz, o ≠ .cells c t fz) (hbw : b < w0.heap.size) (hB : B ≤ b) :
    NumJ b B bs w0 v o' y out r (W.putObj (w0.heap.size + 3) o') := by
  obtain ⟨h1, h2, h3, h4, h5, h6, h7, h8⟩ := h
  have other : ∀ k, k ≠ w0.heap.size + 3 → (W.putObj (w0.heap.size + 3) o').heap[k]? = W.heap[k]? := fun k hk => World.putObj_heap_other hk
  have hlt : w0.heap.size + 3 < W.heap.size := (Array.getElem?_eq_some_iff.1 h7).1
  refine ⟨h1, h2, h3.move fun k _ hk => other k ?_, (other _ (by omega)).trans h4, (other _ (by omega)).trans h5, (other _ (by omega)).trans h6, World.putObj_heap_same hlt, ?_⟩
  · rintro rfl
    rcases hk with e | ⟨c, hc⟩
    · omega
    · rw [h7] at hc
      exact hn _ _ _ (Option.some.inj hc)
  · exact h8.grown (grownBy_putObj' W (w0.heap.size + 3) o') (by have := h8.size; omega) (fun k e => by cases e; have := h8.size; omega)
theorem range_open {P : Program} {F : Fence} {n : Nat} {g : Operand} {ps : Array Tmp} {assign body : Code} {Q : Exit → Act → World → Prop} {a : Act} {w : World} (hro : F.round = none) (h1 : 1 ≤ n) {gf : Nat} {lb : Array Value} (hg : a.eval g = .func (.func gf) #[] lb) (hFg : F.fn gf) (eg : ∀ args w, (callFunc gf args).run P w = .ok (.enter gf args) w)
    (h : ∀ (fn : FuncId) (rec : LoopState → Option Code → Loop), F.fn fn → (rec = fun st pe => { state := st, pending := pe, fn, tmps := a.tmps, params := ps, assign, body, defers := w.heap.size }) →
      CallsIn F (n - 1) P gf (#[.func (.yield (w.heap.size + 1)) #[] #[]] ++ lb) ((w.alloc (.deferred (some []))).alloc (.loop (rec .ready none))) (rangePost F n P (w.heap.size + 1) Q { a with defers := [{ target := .collected w.heap.size, args := #[] }] ++ a.defers })) :
    (Code.rangeFunc g ps assign body).wpIn F n P Q a w := by
  refine wpIn_rangeFunc ?_
  intro fn hfn
  rw [hro]
  obtain ⟨rec, hrec⟩ : ∃ rec : LoopState → Option Code → Loop, rec = fun st pe => { state := st, pending := pe, fn, tmps := a.tmps, params := ps, assign, body, defers := w.heap.size } := ⟨_, rfl⟩
  refine ⟨w.heap.size + 1, [{ target := .collected w.heap.size, args := #[] }], (w.alloc (.deferred (some []))).alloc (.loop (rec .ready none)), { target := .fn (.func gf) lb, args := #[.func (.yield (w.heap.size + 1)) #[] #[]] }, (w.alloc (.deferred (some []))).alloc (.loop (rec .ready none)), gf,
    #[.func (.yield (w.heap.size + 1)) #[] #[]] ++ lb, (w.alloc (.deferred (some []))).alloc (.loop (rec .ready none)), ?_, ?_, ?_, ?_, fun _ => h1, ?_⟩
  · rw [hrec]; exact run_enterLoop_outer _ _ _ _ _
  · simp only [resolve, hg]
    simp [go_sem]
  · intro f' hf'; simp [Target.leads] at hf'; subst hf'; exact hFg
  · simp [invoke, go_sem, eg]
  · have hh := h fn rec hfn hrec
    exact hh
theorem NumJ.wrote {b B : Nat} {bs : List Value} {w0 : World} {v : Nat} {o : Obj} {y : Nat} {out r : List UInt8} {c : UInt8} {W W3 : World} (h : NumJ b B bs w0 v o y out (c :: r) W) (hn : ∀ c t fz, o ≠ .cells c t fz) (hbw : b < w0.heap.size)
    (h3 : BldAt 44 [] B b (.pointer (some ⟨b, 0, none⟩)) (bs ++ Lib.byteCells out ++ [.int .u8 c.toNat]) W3) (hb : Below B W W3) (hk : Lib.OthersKept 5 (some b) W W3) : NumJ b B bs w0 v o y (out ++ [c]) r W3 := by
  obtain ⟨h1, h2, _, h4, h5, h6, h7, h8⟩ := h
  refine ⟨by rw [h1]; simp, h2, .inr ?_, hk _ _ h4 (by simp; omega) (fun _ _ e => by cases e), hk _ _ h5 (by simp; omega) (fun _ _ e => by cases e), hk _ _ h6 (by simp; omega) (fun _ _ e => by cases e), hk _ _ h7 (by simp; omega) (hn · 5), h8.trans hb⟩
  simpa [Lib.byteCells] using h3
theorem wire_digits.exact (v : Int) (w : World) : Calls Try.prog 26 #[.int .u64 v] w fun e w' => e = .returned (.func (.func 29) #[] #[.pointer (some ⟨w.heap.size, 0, none⟩)]) ∧ w.alloc (.cells #[.int .u64 v] 22) = w' := by
  go_enter Try.func26, Try.ntmps26
  go_wp2
  go_ret
  exact ⟨rfl, rfl⟩
section
attribute [local go_sem] Oper.semAt_some
set_option maxHeartbeats 4000000 in
set_option maxRecDepth 100000 in
theorem wire_number (v b B : Nat) (bs : List Value) (w0 : World) (hv : v < 18446744073709551616) (hb : Bld 44 [] B b bs w0) (hlen : bs.length + 10 ≤ 140737488355328) (hBw : B ≤ w0.heap.size) :
    Calls Try.prog 21 #[.pointer (some ⟨b, 0, none⟩), .int .u64 v] w0 fun e W' => e = .returned (.tuple #[]) ∧ Bld 44 [] B b (bs ++ Lib.byteCells (wire_putL v)) W' ∧ Below B w0 W' := by
  obtain ⟨p, hp⟩ := bld_some hb
  have hB : B ≤ b := hp.1
  have hbw : b < w0.heap.size := by obtain ⟨_, h⟩ := hp.blk; exact (Array.getElem?_eq_some_iff.1 h).1
  clear hp
  refine (callsIn_wide (n := 3)).1 ?_
  refine callsIn_of_wp_marks Try.func21 rfl trivial ?_
  simp only [Try.ntmps21, List.size_toArray, List.length_cons, List.length_nil, Nat.reduceAdd, Nat.reduceSub, Array.replicate_succ, Array.replicate_zero, List.push_toArray, List.append_toArray, List.nil_append, List.cons_append]
  gi_wp2_with (refine ⟨trivial, ?_⟩; gi_at_call 26; refine (callsIn_wide.2 (wire_digits.exact _ _)).mono ?_; rintro e w' ⟨rfl, rfl⟩)
  obtain ⟨w1, hw1⟩ : ∃ w1, (w0.alloc (.cells #[.pointer (some ⟨b, 0, none⟩)] 55)).alloc (.cells #[.int .u64 v] 22) = w1 := ⟨_, rfl⟩
  rw [hw1]
  have hs1 : w1.heap.size = w0.heap.size + 2 := by rw [← hw1]; simp
  refine range_open rfl (by decide) (gf := 29) (lb := #[.pointer (some ⟨w0.heap.size + 1, 0, none⟩)]) rfl trivial (enters_of Try.func29 (by kernel_rfl) rfl) ?_
  intro fn rec _ hrec
  have hJ : NumJ b B bs w0 v (.loop (rec .ready none)) v [] (wire_putL v) ((w1.alloc (.deferred (some []))).alloc (.loop (rec .ready none))) := by
    have b1 : Below w0.heap.size w0 w1 := by rw [← hw1]; exact below_alloc (below_alloc (Below.refl _ _) _) _
    have b2 := below_alloc (below_alloc b1 (.deferred (some []))) (.loop (rec .ready none))
    have n0 : w1.heap[w0.heap.size]? = some (.cells #[.pointer (some ⟨b, 0, none⟩)] 55 (0, 0)) := by rw [← hw1, Lib.alloc_old _ _ _ (by simp)]; exact World.alloc_heap_new _ _
    have n1 : w1.heap[w0.heap.size + 1]? = some (.cells #[.int .u64 v] 22 (0, 0)) := by rw [← hw1]; have := World.alloc_heap_new (w0.alloc (.cells #[.pointer (some ⟨b, 0, none⟩)] 55)) (.cells #[.int .u64 v] 22); rwa [World.size_alloc] at this
    have keep : ∀ k, k < w1.heap.size → ((w1.alloc (.deferred (some []))).alloc (.loop (rec .ready none))).heap[k]? = w1.heap[k]? := fun k hk => by
      rw [Lib.alloc_old _ _ k (by simp; omega), Lib.alloc_old _ _ k hk]
    refine ⟨rfl, hv, by simpa [Lib.byteCells] using hb.below b2, (keep _ (by omega)).trans n0, (keep _ (by omega)).trans n1, ?_, ?_, b2.mono hBw⟩
    · rw [← hs1, Lib.alloc_old _ _ _ (by simp)]; exact World.alloc_heap_new _ _
    · have := World.alloc_heap_new (w1.alloc (.deferred (some []))) (.loop (rec .ready none))
      rw [World.size_alloc, hs1] at this
      exact this
  rw [hs1]
  refine (wire_digits1 Fence.wide (3 - 1) trivial rfl (by decide) b B bs w0 v hv (.loop (rec .ready none)) hbw hB ?_ _ hJ).mono ?_
  · intro y d more out r W hd hW
    have hy := run_yield (P := Try.prog) (args := #[.int .u8 d, .bool more]) hW.2.2.2.2.2.2.1 (by rw [hrec]; rfl)
    rw [hrec] at hy
    dsimp only at hy
    have hl := hW.2.2.2.2.2.2.1
    have hs3 : w0.heap.size + 3 < W.heap.size := (Array.getElem?_eq_some_iff.1 hl).1
    have HL := Aside0.mk hl
    have HR := Aside0.mk hrec
    have HW := Aside0.mk hW
    have HS := Aside0.mk hs1
    have H1 := Aside0.mk hw1
    refine ⟨fn, _, _, _, hy, roundIn_of_wpIn trivial ?_⟩
    clear hl hrec hy hW hs1 hw1
    gi_wp2
    refine ⟨_, run_beginRound HL.out (by rw [HR.out]), ?_⟩
    have hW := HW.out
    have hW2 := hW.putObj (.loop { rec .ready none with state := .busy }) (fun _ _ _ e => by cases e) hbw hB
    generalize hWW : W.putObj (w0.heap.size + 3) (.loop { rec .ready none with state := .busy }) = W2 at hW2 ⊢
    have hbox : W2.cell? ⟨w0.heap.size, 0, none⟩ = some (.pointer (some ⟨b, 0, none⟩)) := by rw [Lib.cell_of_heap hW2.2.2.2.1]; rfl
    have hlen2 : (bs ++ Lib.byteCells out).length + 1 ≤ 140737488355328 := by
      have h1 := congrArg List.length hW.1
      have h2 := wire_putL_ten v hv
      simp at h1
      rw [List.length_append, Lib.byteCells_length]
      omega
    have hl2 := Aside0.mk hW2.2.2.2.2.2.2.1
    have HWW := Aside0.mk hWW
    have HB2 := Aside0.mk hW2
    have hsz : B ≤ W2.heap.size := by have := hW2.2.2.2.2.2.2.2.size; omega
    have hbd := hW2.2.2.1
    clear hWW hW2 hW
    have hor := wire_or_fin ⟨d, hd⟩
    simp only at hor
    cases more
    · gi_wp2_with (refine ⟨trivial, ?_⟩; gi_at_call 27; refine (CallsIn.inRound _ (callsIn_wide.2 (bld_writeByte (T := 44) (rest := []) (by decide) (by kernel_rfl) B b _ _ _ hbd hlen2 hsz))).mono ?_; rintro e W3 ⟨rfl, h3, hb3, hk3⟩)
      have h4 := NumJ.wrote (c := UInt8.ofNat (wire_mk d false)) HB2.out (fun _ _ _ e => by cases e) hbw (by rw [show ((UInt8.ofNat (wire_mk d false)).toNat : Int) = (d : Int) by simp [wire_mk]; omega]; exact h3) hb3 hk3
      have hl3 := h4.2.2.2.2.2.2.1
      refine ⟨_, _, run_endRound none hl3, rfl, ?_⟩
      have h5 := h4.putObj (.loop (rec .ready none)) (fun _ _ _ e => by cases e) hbw hB
      have e : ({ { rec .ready none with state := LoopState.busy } with state := if (none : Option Code).isNone then .ready else .done, pending := none } : Loop) = rec .ready none := by rw [HR.out]; rfl
      rw [e]
      exact h5
    · gi_wp2_with (refine ⟨trivial, ?_⟩; gi_at_call 27; refine (CallsIn.inRound _ (callsIn_wide.2 (bld_writeByte (T := 44) (rest := []) (by decide) (by kernel_rfl) B b _ _ _ hbd hlen2 hsz))).mono ?_; rintro e W3 ⟨rfl, h3, hb3, hk3⟩)
      have h4 := NumJ.wrote (c := UInt8.ofNat (wire_mk d true)) HB2.out (fun _ _ _ e => by cases e) hbw (by rw [show ((UInt8.ofNat (wire_mk d true)).toNat : Int) = (d : Int) + 128 by simp [wire_mk]; omega]; exact h3) hb3 hk3
      have hl3 := h4.2.2.2.2.2.2.1
      refine ⟨_, _, run_endRound none hl3, rfl, ?_⟩
      have h5 := h4.putObj (.loop (rec .ready none)) (fun _ _ _ e => by cases e) hbw hB
      have e : ({ { rec .ready none with state := LoopState.busy } with state := if (none : Option Code).isNone then .ready else .done, pending := none } : Loop) = rec .ready none := by rw [HR.out]; rfl
      rw [e]
      exact h5
  · rintro e W3 ⟨⟨x, rfl⟩, y, h3⟩
    have hl3 := h3.2.2.2.2.2.2.1
    refine ⟨(rec .ready none).pending, _, run_endLoop (P := Try.prog) hl3 (by rw [hrec]; simp), ?_⟩
    have h4 := h3.putObj (.loop { rec .ready none with state := .exhausted }) (fun _ _ _ e => by cases e) hbw hB
    have hpe : (rec .ready none).pending = none := by rw [hrec]
    generalize (W3.putObj (w0.heap.size + 3) (.loop { rec .ready none with state := .exhausted })) = W4 at h4 ⊢
    rw [hpe]
    have hK := h4.2.2.2.2.2.1
    have H4 := Aside0.mk h4
    clear h3 h4 hl3 hpe hrec hJ hw1
    gi_wp2
    refine ⟨by simp, .inl ⟨_, _, rfl, run_takeDeferred hK, ?_⟩⟩
    refine ⟨_, results_none rfl _ _ _, rfl, ?_, ?_⟩
    · exact H4.out.2.2.1.move fun k _ hk => World.putObj_heap_other (by
        rintro rfl
        rcases hk with e | ⟨c, hc⟩
        · omega
        · rw [hK] at hc; cases hc)
    · exact H4.out.2.2.2.2.2.2.2.grown (grownBy_putObj' W4 (w0.heap.size + 2) _) (by have := H4.out.2.2.2.2.2.2.2.size; omega) (fun k e => by cases e; omega)
end
/-- wire.Put. -/
def wire_Put.f (a0 : Int) : Option ByteArray := if 0 ≤ a0 ∧ a0 < 18446744073709551616 then some ⟨(wire_putL a0.toNat).toArray⟩ else none
set_option maxHeartbeats 4000000 in
set_option maxRecDepth 100000 in
theorem wire_Put.calls (a0 : Int) (r : ByteArray) (w : World) (h : wire_Put.f a0 = some r) : Calls Try.prog 8 #[.int .u64 a0] w fun e w' => e = .returned (.string r) ∧ Below w.heap.size w w' := by
  unfold wire_Put.f at h
  split at h
  · rename_i ha
    obtain ⟨v, rfl⟩ := Int.eq_ofNat_of_zero_le ha.1
    obtain rfl := Option.some.inj h
    rw [Int.toNat_natCast]
    have hv : v < 18446744073709551616 := by omega
    have hn := bld_new 44 [] w
    have HN := Aside0.mk hn
    clear hn h ha
    go_enter Try.func8, Try.ntmps8
    go_wp2_with (first | (go_at_call 21; refine (wire_number v w.heap.size w.heap.size [] _ hv HN.out (by simp) (by simp)).mono ?_; rintro e w1 ⟨rfl, hb1, hl1⟩) | (go_at_call 22; refine (bld_string (T := 44) (rest := []) w.heap.size w.heap.size (wire_putL v) _ hb1 (wire_putL_ne v)).mono ?_; rintro e w2 ⟨rfl, hl2⟩))
    go_ret
    exact ⟨rfl, ((Below.refl _ _).alloc (Nat.le_refl _) _).trans (hl1.trans hl2)⟩
  · cases h

/-! ### wire_PutText: function 9 -/
/-- wire.PutText. -/
def wire_PutText.f (a0 : ByteArray) : Option ByteArray := if a0.size + 10 ≤ 140737488355328 then some ⟨(wire_putL a0.size ++ a0.data.toList).toArray⟩ else none
set_option maxHeartbeats 4000000 in
set_option maxRecDepth 100000 in
theorem wire_PutText.calls (a0 : ByteArray) (r : ByteArray) (w : World) (h : wire_PutText.f a0 = some r) : Calls Try.prog 9 #[.string a0] w fun e w' => e = .returned (.string r) ∧ Below w.heap.size w w' := by
  unfold wire_PutText.f at h
  split at h
  · rename_i ha
    obtain rfl := Option.some.inj h
    have hv : a0.size < 18446744073709551616 := by omega
    have HN := Aside0.mk (bld_new 44 [] w)
    have hten := wire_putL_ten a0.size hv
    have hlen3 : ([] ++ Lib.byteCells (wire_putL a0.size)).length + a0.size ≤ 140737488355328 := by rw [List.nil_append, Lib.byteCells_length]; omega
    have hsz : ∀ w1, Below w.heap.size (w.alloc (.cells ⟨.pointer none :: .slice none 0 0 :: []⟩ 44)) w1 → w.heap.size ≤ w1.heap.size := fun w1 hl => by have := hl.size; simp at this; omega
    have conv : ∀ W, BldAt 44 [] w.heap.size w.heap.size (.pointer (some ⟨w.heap.size, 0, none⟩)) ([] ++ Lib.byteCells (wire_putL a0.size) ++ Lib.strCells a0) W → Bld 44 [] w.heap.size w.heap.size (Lib.byteCells (wire_putL a0.size ++ a0.data.toList)) W := fun W hW => .inr (by simpa [Lib.byteCells, Lib.strCells] using hW)
    have hne : wire_putL a0.size ++ a0.data.toList ≠ [] := by simp [wire_putL_ne]
    have HL3 := Aside0.mk hlen3
    have HSZ := Aside0.mk hsz
    have CONV := Aside0.mk conv
    clear h hlen3 hsz conv
    go_enter Try.func9, Try.ntmps9
    go_wp2_with (first | (go_at_call 21; refine (wire_number a0.size w.heap.size w.heap.size [] _ hv HN.out (by simp) (by simp)).mono ?_; rintro e w1 ⟨rfl, hb1, hl1⟩) | (go_at_call 23; refine (bld_writeString (T := 44) (rest := []) (by decide) (by kernel_rfl) w.heap.size w.heap.size _ a0 _ hb1 HL3.out (HSZ.out _ hl1)).mono ?_; rintro e w2 ⟨rfl, hb2, hl2, _⟩) | (go_at_call 22; refine (bld_string (T := 44) (rest := []) w.heap.size w.heap.size (wire_putL a0.size ++ a0.data.toList) _ (CONV.out _ hb2) hne).mono ?_; rintro e w3 ⟨rfl, hl3⟩))
    go_ret
    exact ⟨rfl, ((Below.refl _ _).alloc (Nat.le_refl _) _).trans (hl1.trans (hl2.trans hl3))⟩
  · cases h

/-! ### wire_Get: function 12 -/
mutual
def wire_Get.l0 : Nat → ByteArray → Int → Int → Int → Option (Int × Int × Int)
  | 0, _, _, _, _ => none
  | k + 1, x0, x5, x9, x10 => if x10 < x9 then (if 0 ≤ x10 then (if x10 < (x0.size : Int) then (if x10 = 9 then (if (bt x0 x10) > 1 then (wire_Get.j1 k x0 x5 x10 (bt x0 x10) x9 x10 true) else (if x10 > 0 then (wire_Get.j1 k x0 x5 x10 (bt x0 x10) x9 x10 ((bt x0 x10) == 0)) else (wire_Get.j1 k x0 x5 x10 (bt x0 x10) x9 x10 false))) else (if x10 > 0 then (wire_Get.j1 k x0 x5 x10 (bt x0 x10) x9 x10 ((bt x0 x10) == 0)) else (wire_Get.j1 k x0 x5 x10 (bt x0 x10) x9 x10 false))) else (none)) else (none)) else (some (0, 0, 9))
def wire_Get.j1 : Nat → ByteArray → Int → Int → Int → Int → Int → Bool → Option (Int × Int × Int)
  | 0, _, _, _, _, _, _, _ => none
  | k + 1, x0, x5, x6, x7, x9, x10, x29 => if x29 = true then (some (0, 0, 3)) else (if 0 ≤ (wrap64 (7 * x6)) then (if x7 < 128 then (some (Go.bits .or .u64 x5 (shl .u64 (IntKind.u64.wrap (Go.bits .and .u8 x7 127)) (wrap64 (7 * x6))), wrap64 (x6 + 1), 0)) else (wire_Get.l0 k x0 (Go.bits .or .u64 x5 (shl .u64 (IntKind.u64.wrap (Go.bits .and .u8 x7 127)) (wrap64 (7 * x6)))) x9 (wrap64 (x10 + 1)))) else (none))
end
def wire_Get.f (k : Nat) (a0 : ByteArray) : Option (Int × Int × Int) := wire_Get.l0 k a0 0 (a0.size : Int) 0
theorem wire_Get.mono_l : ∀ k, (∀ y0 y1 y2 y3, LeO (wire_Get.l0 k y0 y1 y2 y3) (wire_Get.l0 (k + 1) y0 y1 y2 y3)) ∧ (∀ y0 y1 y2 y3 y4 y5 y6, LeO (wire_Get.j1 k y0 y1 y2 y3 y4 y5 y6) (wire_Get.j1 (k + 1) y0 y1 y2 y3 y4 y5 y6))
  | 0 => ⟨fun _ _ _ _ r h => by simp [wire_Get.l0] at h, fun _ _ _ _ _ _ _ r h => by simp [wire_Get.j1] at h⟩
  | k + 1 => by
    obtain ⟨ih0, ih1⟩ := wire_Get.mono_l k
    refine ⟨?_, ?_⟩
    · intro y0 y1 y2 y3
      unfold wire_Get.l0
      repeat' first
      | (with_reducible exact ih0 _ _ _ _)
      | (with_reducible exact ih1 _ _ _ _ _ _ _)
      | (with_reducible exact LeO.refl _)
      | (with_reducible exact LeO.none _)
      | (with_reducible refine LeO.ite ?_ ?_)
      | (with_reducible refine LeO.bind ?_ (fun _ => ?_))
      | exact ih0 _ _ _ _
      | exact ih1 _ _ _ _ _ _ _
      | exact LeO.none _
      | refine LeO.ite ?_ ?_
      | refine LeO.bind ?_ (fun _ => ?_)
    · intro y0 y1 y2 y3 y4 y5 y6
      unfold wire_Get.j1
      repeat' first
      | (with_reducible exact ih0 _ _ _ _)
      | (with_reducible exact ih1 _ _ _ _ _ _ _)
      | (with_reducible exact LeO.refl _)
      | (with_reducible exact LeO.none _)
      | (with_reducible refine LeO.ite ?_ ?_)
      | (with_reducible refine LeO.bind ?_ (fun _ => ?_))
      | exact ih0 _ _ _ _
      | exact ih1 _ _ _ _ _ _ _
      | exact LeO.none _
      | refine LeO.ite ?_ ?_
      | refine LeO.bind ?_ (fun _ => ?_)
theorem wire_Get.mono : ∀ a0 k, LeO (wire_Get.f k a0) (wire_Get.f (k + 1) a0) := by
  intro a0 k
  obtain ⟨ih0, ih1⟩ := wire_Get.mono_l k
  unfold wire_Get.f
  repeat' first
      | (with_reducible exact ih0 _ _ _ _)
      | (with_reducible exact ih1 _ _ _ _ _ _ _)
      | (with_reducible exact LeO.refl _)
      | (with_reducible exact LeO.none _)
      | (with_reducible refine LeO.ite ?_ ?_)
      | (with_reducible refine LeO.bind ?_ (fun _ => ?_))
      | exact ih0 _ _ _ _
      | exact ih1 _ _ _ _ _ _ _
      | exact LeO.none _
      | refine LeO.ite ?_ ?_
      | refine LeO.bind ?_ (fun _ => ?_)
set_option maxHeartbeats 8000000 in
set_option maxRecDepth 100000 in
theorem wire_Get.calls (k : Nat) (a0 : ByteArray) (r1 : Int) (r2 : Int) (r3 : Int) (w : World) (h : wire_Get.f k a0 = some (r1, r2, r3)) :
    Calls Try.prog 12 #[.string a0] w fun e w' => e = .returned (.tuple #[.int .u64 r1, .int .i64 r2, .int .i64 r3]) ∧ Drawn0 w w' := by
  have H : (wire_Get.l0 k a0 0 (a0.size : Int) 0) = some (r1, r2, r3) := h
  clear h
  have H' := Aside0.mk H
  clear H
  go_enter Try.func12, Try.ntmps12
  go_wp2
  go_loopg [5, 10] k (fun kq v5 v10 w' => ∃ (x5_1 : Int) (x10_1 : Int), v5 = .int .u64 x5_1 ∧ v10 = .int .i64 x10_1 ∧ Aside0 (wire_Get.l0 kq a0 x5_1 (a0.size : Int) x10_1 = some (r1, r2, r3)) ∧ Aside0 (kq ≤ k) ∧ Drawn0 w w')
  case atStart => exact ⟨(0), (0), (by first | rfl | (simp; done) | (simp [*]; done)), (by first | rfl | (simp; done) | (simp [*]; done)), H', ⟨Nat.le_refl _⟩, by repeat (first | exact Drawn0.refl _ | apply Drawn0.step)⟩
  case round =>
    clear H'
    try clear c1
    obtain ⟨x5_1, x10_1, rfl, rfl, HA, HK1, ⟨m1, rfl⟩⟩ := hrel
    cases gk with
    | zero => exact absurd HA.out (by simp [wire_Get.l0])
    | succ k1 =>
      have H := HA.out
      clear HA
      simp only [wire_Get.l0] at H
      by_cases c2 : x10_1 < (a0.size : Int)
      · rw [if_pos c2] at H
        have c2b0 : decide (x10_1 < (a0.size : Int)) = true := decide_eq_true c2
        clear c2
        by_cases c3 : 0 ≤ x10_1
        · rw [if_pos c3] at H
          have c3b0 : decide (0 ≤ x10_1) = true := decide_eq_true c3
          clear c3
          by_cases c4 : x10_1 < (a0.size : Int)
          · rw [if_pos c4] at H
            have c4b0 : decide (x10_1 < (a0.size : Int)) = true := decide_eq_true c4
            clear c4
            have HC6 := Aside0.mk H
            clear H
            have p5 : 0 ≤ (x10_1 : Int) := of_decide_eq_true (by first | (with_reducible assumption) | assumption)
            have q5 : x10_1 < (a0.size : Int) := of_decide_eq_true (by first | (with_reducible assumption) | assumption)
            have hx5 := bt_at a0 x10_1
            replace p5 := eq_true p5
            replace q5 := eq_true q5
            go_upto_region 6 with (fail)
            go_cut [29] (fun v29 wc => ∃ (kq : Nat) (x29_5 : Bool), v29 = .bool x29_5 ∧ Aside0 (wire_Get.j1 kq a0 x5_1 x10_1 (bt a0 x10_1) (a0.size : Int) x10_1 x29_5 = some (r1, r2, r3)) ∧ Aside0 (kq ≤ k1) ∧ Drawn0 w wc)
            case first =>
              have H := HC6.out
              clear HC6
              (try (rw [drewN_self wc]; have n0_ := fun n_ => pw_below_drewN HB.out n_; clear HB; generalize hq_ : World.drewN wc _ = wc; have HB := Aside0.mk (hq_ ▸ n0_ _); clear hq_ n0_))
              by_cases c7 : x10_1 = 9
              · rw [if_pos c7] at H
                have c7b0 : (x10_1 == 9) = true := beq_iff_eq.mpr c7
                have c7b1 : (x10_1 != 9) = false := bne_eq_false_iff_eq.mpr c7
                clear c7
                (first | rw [c7b0] | (simp only [i64_w, i32_w]; rw [c7b0]) | skip)
                by_cases c8 : (bt a0 x10_1) > 1
                · rw [if_pos c8] at H
                  have c8b0 : decide (1 < (bt a0 x10_1)) = true := decide_eq_true c8
                  clear c8
                  have H' := Aside0.mk H
                  clear H
                  go_wp2
                  go_meet
                  case rel => exact ⟨_, (true), (by first | rfl | (simp; done) | (simp [*]; done)), H', ⟨by have := HK1.out; first | omega | exact Nat.le_refl _⟩, by repeat (first | exact Drawn0.refl _ | apply Drawn0.step)⟩
                · rw [if_neg c8] at H
                  have c8b0 : decide (1 < (bt a0 x10_1)) = false := decide_eq_false c8
                  clear c8
                  by_cases c9 : x10_1 > 0
                  · rw [if_pos c9] at H
                    have c9b0 : decide (0 < x10_1) = true := decide_eq_true c9
                    clear c9
                    have H' := Aside0.mk H
                    clear H
                    go_wp2
                    go_meet
                    case rel => exact ⟨_, (((bt a0 x10_1) == 0)), (by first | rfl | (simp; done) | (simp [*]; done)), H', ⟨by have := HK1.out; first | omega | exact Nat.le_refl _⟩, by repeat (first | exact Drawn0.refl _ | apply Drawn0.step)⟩
                  · rw [if_neg c9] at H
                    have c9b0 : decide (0 < x10_1) = false := decide_eq_false c9
                    clear c9
                    have H' := Aside0.mk H
                    clear H
                    go_wp2
                    go_meet
                    case rel => exact ⟨_, (false), (by first | rfl | (simp; done) | (simp [*]; done)), H', ⟨by have := HK1.out; first | omega | exact Nat.le_refl _⟩, by repeat (first | exact Drawn0.refl _ | apply Drawn0.step)⟩
              · rw [if_neg c7] at H
                have c7b0 : (x10_1 == 9) = false := beq_eq_false_iff_ne.mpr c7
                have c7b1 : (x10_1 != 9) = true := bne_iff_ne.mpr c7
                (first | rw [c7b0] | (simp only [i64_w, i32_w]; rw [c7b0]) | skip)
                by_cases c10 : x10_1 > 0
                · rw [if_pos c10] at H
                  have c10b0 : decide (0 < x10_1) = true := decide_eq_true c10
                  clear c10
                  have H' := Aside0.mk H
                  clear H
                  go_wp2
                  go_meet
                  case rel => exact ⟨_, (((bt a0 x10_1) == 0)), (by first | rfl | (simp; done) | (simp [*]; done)), H', ⟨by have := HK1.out; first | omega | exact Nat.le_refl _⟩, by repeat (first | exact Drawn0.refl _ | apply Drawn0.step)⟩
                · rw [if_neg c10] at H
                  have c10b0 : decide (0 < x10_1) = false := decide_eq_false c10
                  clear c10
                  have H' := Aside0.mk H
                  clear H
                  go_wp2
                  go_meet
                  case rel => exact ⟨_, (false), (by first | rfl | (simp; done) | (simp [*]; done)), H', ⟨by have := HK1.out; first | omega | exact Nat.le_refl _⟩, by repeat (first | exact Drawn0.refl _ | apply Drawn0.step)⟩
            case rest =>
              clear HC6
              try clear c1
              try clear c2
              try clear c2b0
              try clear p2
              try clear c3
              try clear c3b0
              try clear c4
              try clear c4b0
              try clear p5
              try clear q5
              try clear hx5
              try clear c7
              try clear c7b0
              try clear c7b1
              try clear c8
              try clear c8b0
              try clear c9
              try clear c9b0
              try clear c10
              try clear c10b0
              try clear p5
              try clear q5
              obtain ⟨kq, x29_5, rfl, HA, HJ5, ⟨mc5, rfl⟩⟩ := hcut
              cases kq with
              | zero => exact absurd HA.out (by simp [wire_Get.j1])
              | succ kj5 =>
                have H := HA.out
                clear HA
                simp only [wire_Get.j1] at H
                by_cases c11 : x29_5 = true
                · subst c11
                  have H1 : (some (0, 0, 3)) = some (r1, r2, r3) := by rw [if_pos rfl] at H; exact H
                  clear H
                  have H := H1
                  clear H1
                  simp only [Option.some.injEq, Prod.mk.injEq] at H
                  obtain ⟨rfl, rfl, rfl⟩ := H
                  go_wp2
                  go_ret3
                  exact ⟨by first | rfl | (simp; done) | (simp [*]; done), by repeat (first | exact Drawn0.refl _ | apply Drawn0.step)⟩
                · replace c11 := Bool.eq_false_iff.mpr c11
                  subst c11
                  have H1 : (if 0 ≤ (wrap64 (7 * x10_1)) then (if (bt a0 x10_1) < 128 then (some (Go.bits .or .u64 x5_1 (shl .u64 (IntKind.u64.wrap (Go.bits .and .u8 (bt a0 x10_1) 127)) (wrap64 (7 * x10_1))), wrap64 (x10_1 + 1), 0)) else (wire_Get.l0 kj5 a0 (Go.bits .or .u64 x5_1 (shl .u64 (IntKind.u64.wrap (Go.bits .and .u8 (bt a0 x10_1) 127)) (wrap64 (7 * x10_1)))) (a0.size : Int) (wrap64 (x10_1 + 1)))) else (none)) = some (r1, r2, r3) := by rw [if_neg (show ¬ (false = true) by decide)] at H; exact H
                  clear H
                  have H := H1
                  clear H1
                  obtain ⟨ji12, hji12⟩ : ∃ j_ : Int, (wrap64 (7 * x10_1)) = j_ := ⟨_, rfl⟩
                  replace H : (if 0 ≤ (ji12) then (if (bt a0 x10_1) < 128 then (some (Go.bits .or .u64 x5_1 (shl .u64 (IntKind.u64.wrap (Go.bits .and .u8 (bt a0 x10_1) 127)) (ji12)), wrap64 (x10_1 + 1), 0)) else (wire_Get.l0 kj5 a0 (Go.bits .or .u64 x5_1 (shl .u64 (IntKind.u64.wrap (Go.bits .and .u8 (bt a0 x10_1) 127)) (ji12))) (a0.size : Int) (wrap64 (x10_1 + 1)))) else (none)) = some (r1, r2, r3) := by first | (rw [hji12] at H; exact H) | (simp only [hji12] at H ⊢; exact H)
                  have hji12w : (IntKind.i64.wrap (7 * x10_1)) = ji12 := (i64_w _).trans hji12
                  by_cases c13 : 0 ≤ (ji12)
                  · rw [if_pos c13] at H
                    have c13b0 := eq_true c13
                    have c13b1 : decide (0 ≤ (ji12)) = true := decide_eq_true c13
                    clear c13
                    obtain ⟨ji14, hji14⟩ : ∃ j_ : Int, (shl .u64 (IntKind.u64.wrap (Go.bits .and .u8 (bt a0 x10_1) 127)) (ji12)) = j_ := ⟨_, rfl⟩
                    replace H : (if (bt a0 x10_1) < 128 then (some (Go.bits .or .u64 x5_1 (ji14), wrap64 (x10_1 + 1), 0)) else (wire_Get.l0 kj5 a0 (Go.bits .or .u64 x5_1 (ji14)) (a0.size : Int) (wrap64 (x10_1 + 1)))) = some (r1, r2, r3) := by first | (rw [hji14] at H; exact H) | (simp only [hji14] at H ⊢; exact H)
                    have hji14_ : (IntKind.u64.wrap ((IntKind.u64.wrap (Go.bits .and .u8 (bt a0 x10_1) 127)) * 2 ^ min (ji12).toNat 64)) = ji14 := hji14
                    have hji14z : (ji12) ≤ 64 → (IntKind.u64.wrap ((IntKind.u64.wrap (Go.bits .and .u8 (bt a0 x10_1) 127)) * 2 ^ (ji12).toNat)) = ji14 := shl_small hji14
                    by_cases c15 : (bt a0 x10_1) < 128
                    · rw [if_pos c15] at H
                      have c15b0 : decide ((bt a0 x10_1) < 128) = true := decide_eq_true c15
                      clear c15
                      simp only [Option.some.injEq, Prod.mk.injEq] at H
                      obtain ⟨rfl, rfl, rfl⟩ := H
                      go_wp2
                      go_ret3
                      exact ⟨by first | rfl | (simp; done) | (simp only [← hji12, ← hji14] <;> (first | rfl | simp)) | (simp [*]; done), by repeat (first | exact Drawn0.refl _ | apply Drawn0.step)⟩
                    · rw [if_neg c15] at H
                      have c15b0 : decide ((bt a0 x10_1) < 128) = false := decide_eq_false c15
                      clear c15
                      have H' := Aside0.mk H
                      clear H
                      go_wp2
                      go_roundg kj5
                      case measure => have := HK1.out; have := HJ5.out; omega
                      case rel => exact ⟨(Go.bits .or .u64 x5_1 (ji14)), (wrap64 (x10_1 + 1)), (by first | rfl | (simp; done) | (simp only [← hji14] <;> (first | rfl | simp)) | (simp [*]; done)), (by first | rfl | (simp; done) | (simp [*]; done)), H', ⟨by have := HK1.out; have := HJ5.out; omega⟩, by repeat (first | exact Drawn0.refl _ | apply Drawn0.step)⟩
                  · rw [if_neg c13] at H
                    exact absurd H (by simp)
          · rw [if_neg c4] at H
            exact absurd H (by simp)
        · rw [if_neg c3] at H
          exact absurd H (by simp)
      · rw [if_neg c2] at H
        have c2b0 : decide (x10_1 < (a0.size : Int)) = false := decide_eq_false c2
        clear c2
        simp only [Option.some.injEq, Prod.mk.injEq] at H
        obtain ⟨rfl, rfl, rfl⟩ := H
        go_wp2
        go_ret3
        exact ⟨by first | rfl | (simp; done) | (simp [*]; done), by repeat (first | exact Drawn0.refl _ | apply Drawn0.step)⟩

/-! ### wire_GetText: function 11 -/
def wire_GetText.j0 : Nat → ByteArray → Int → Bool → Option (ByteArray × Int × Int)
  | 0, _, _, _ => none
  | k + 1, x0, x1, x15 => if x15 = true then (some ((⟨#[]⟩ : ByteArray), 0, 1)) else ((wire_Get.f k x0).bind fun bt101 => (if bt101.2.2 = 0 then (if bt101.1 > (IntKind.u64.wrap (x1)) then (some ((⟨#[]⟩ : ByteArray), 0, 2)) else (if (wrap64 (bt101.1)) > (wrap64 ((x0.size : Int) - bt101.2.1)) then (some ((⟨#[]⟩ : ByteArray), 0, 9)) else (if 0 ≤ bt101.2.1 then (if bt101.2.1 ≤ (x0.size : Int) then (if 0 ≤ bt101.1 then (if bt101.1 ≤ ((x0.extract (bt101.2.1 : Int).toNat x0.size).size : Int) then (some ((x0.extract (bt101.2.1 : Int).toNat x0.size).extract 0 (bt101.1 : Int).toNat, wrap64 (bt101.2.1 + (wrap64 (bt101.1))), 0)) else (none)) else (none)) else (none)) else (none)))) else (some ((⟨#[]⟩ : ByteArray), 0, bt101.2.2))))
def wire_GetText.f (k : Nat) (a0 : ByteArray) (a1 : Int) : Option (ByteArray × Int × Int) := if a1 < 0 then (wire_GetText.j0 k a0 a1 true) else (wire_GetText.j0 k a0 a1 (decide (a1 > 1000000)))
theorem wire_GetText.mono_l : ∀ k, (∀ y0 y1 y2, LeO (wire_GetText.j0 k y0 y1 y2) (wire_GetText.j0 (k + 1) y0 y1 y2))
  | 0 => fun _ _ _ r h => by simp [wire_GetText.j0] at h
  | k + 1 => by
    have ih0 := wire_GetText.mono_l k
    · intro y0 y1 y2
      unfold wire_GetText.j0
      repeat' first
      | (with_reducible exact ih0 _ _ _)
      | (with_reducible exact wire_Get.mono _ _)
      | (with_reducible exact LeO.refl _)
      | (with_reducible exact LeO.none _)
      | (with_reducible refine LeO.ite ?_ ?_)
      | (with_reducible refine LeO.bind ?_ (fun _ => ?_))
      | exact ih0 _ _ _
      | exact wire_Get.mono _ _
      | exact LeO.none _
      | refine LeO.ite ?_ ?_
      | refine LeO.bind ?_ (fun _ => ?_)
theorem wire_GetText.mono : ∀ a0 a1 k, LeO (wire_GetText.f k a0 a1) (wire_GetText.f (k + 1) a0 a1) := by
  intro a0 a1 k
  have ih0 := wire_GetText.mono_l k
  unfold wire_GetText.f
  repeat' first
      | (with_reducible exact ih0 _ _ _)
      | (with_reducible exact wire_Get.mono _ _)
      | (with_reducible exact LeO.refl _)
      | (with_reducible exact LeO.none _)
      | (with_reducible refine LeO.ite ?_ ?_)
      | (with_reducible refine LeO.bind ?_ (fun _ => ?_))
      | exact ih0 _ _ _
      | exact wire_Get.mono _ _
      | exact LeO.none _
      | refine LeO.ite ?_ ?_
      | refine LeO.bind ?_ (fun _ => ?_)
set_option maxHeartbeats 8000000 in
set_option maxRecDepth 100000 in
theorem wire_GetText.calls (k : Nat) (a0 : ByteArray) (a1 : Int) (r1 : ByteArray) (r2 : Int) (r3 : Int) (w : World) (h : wire_GetText.f k a0 a1 = some (r1, r2, r3)) :
    Calls Try.prog 11 #[.string a0, .int .i64 a1] w fun e w' => e = .returned (.tuple #[.string r1, .int .i64 r2, .int .i64 r3]) ∧ Drawn0 w w' := by
  have H : (if a1 < 0 then (wire_GetText.j0 k a0 a1 true) else (wire_GetText.j0 k a0 a1 (decide (a1 > 1000000)))) = some (r1, r2, r3) := h
  clear h
  have HC3 := Aside0.mk H
  clear H
  go_enter Try.func11, Try.ntmps11
  go_upto_region 1 with (fail)
  go_cut [15] (fun v15 wc => ∃ (kq : Nat) (x15_2 : Bool), v15 = .bool x15_2 ∧ Aside0 (wire_GetText.j0 kq a0 a1 x15_2 = some (r1, r2, r3)) ∧ Aside0 (kq ≤ k) ∧ Drawn0 w wc)
  case first =>
    have H := HC3.out
    clear HC3
    (try (rw [drewN_self w]; have n0_ := fun n_ => pw_below_drewN HB.out n_; clear HB; generalize hq_ : World.drewN w _ = w; have HB := Aside0.mk (hq_ ▸ n0_ _); clear hq_ n0_))
    by_cases c4 : a1 < 0
    · rw [if_pos c4] at H
      have c4b0 : decide (a1 < 0) = true := decide_eq_true c4
      clear c4
      (first | rw [c4b0] | (simp only [i64_w, i32_w]; rw [c4b0]) | skip)
      have H' := Aside0.mk H
      clear H
      go_wp2
      go_meet
      case rel => exact ⟨_, (true), (by first | rfl | (simp; done) | (simp [*]; done)), H', ⟨by first | omega | exact Nat.le_refl _⟩, by repeat (first | exact Drawn0.refl _ | apply Drawn0.step)⟩
    · rw [if_neg c4] at H
      have c4b0 : decide (a1 < 0) = false := decide_eq_false c4
      clear c4
      (first | rw [c4b0] | (simp only [i64_w, i32_w]; rw [c4b0]) | skip)
      have H' := Aside0.mk H
      clear H
      go_wp2
      go_meet
      case rel => exact ⟨_, (decide (a1 > 1000000)), (by first | rfl | (simp; done) | (simp [*]; done)), H', ⟨by first | omega | exact Nat.le_refl _⟩, by repeat (first | exact Drawn0.refl _ | apply Drawn0.step)⟩
  case rest =>
    clear HC3
    try clear c1
    try clear p2
    try clear c4
    try clear c4b0
    obtain ⟨kq, x15_2, rfl, HA, HJ2, ⟨mc2, rfl⟩⟩ := hcut
    cases kq with
    | zero => exact absurd HA.out (by simp [wire_GetText.j0])
    | succ kj2 =>
      have H := HA.out
      clear HA
      simp only [wire_GetText.j0] at H
      by_cases c5 : x15_2 = true
      · subst c5
        have H1 : (some ((⟨#[]⟩ : ByteArray), 0, 1)) = some (r1, r2, r3) := by rw [if_pos rfl] at H; exact H
        clear H
        have H := H1
        clear H1
        simp only [Option.some.injEq, Prod.mk.injEq] at H
        obtain ⟨rfl, rfl, rfl⟩ := H
        go_wp2
        go_ret3
        exact ⟨by first | rfl | (simp; done) | (simp [*]; done), by repeat (first | exact Drawn0.refl _ | apply Drawn0.step)⟩
      · replace c5 := Bool.eq_false_iff.mpr c5
        subst c5
        have H1 : ((wire_Get.f kj2 a0).bind fun bt101 => (if bt101.2.2 = 0 then (if bt101.1 > (IntKind.u64.wrap (a1)) then (some ((⟨#[]⟩ : ByteArray), 0, 2)) else (if (wrap64 (bt101.1)) > (wrap64 ((a0.size : Int) - bt101.2.1)) then (some ((⟨#[]⟩ : ByteArray), 0, 9)) else (if 0 ≤ bt101.2.1 then (if bt101.2.1 ≤ (a0.size : Int) then (if 0 ≤ bt101.1 then (if bt101.1 ≤ ((a0.extract (bt101.2.1 : Int).toNat a0.size).size : Int) then (some ((a0.extract (bt101.2.1 : Int).toNat a0.size).extract 0 (bt101.1 : Int).toNat, wrap64 (bt101.2.1 + (wrap64 (bt101.1))), 0)) else (none)) else (none)) else (none)) else (none)))) else (some ((⟨#[]⟩ : ByteArray), 0, bt101.2.2)))) = some (r1, r2, r3) := by rw [if_neg (show ¬ (false = true) by decide)] at H; exact H
        clear H
        have H := H1
        clear H1
        replace H := Option.bind_eq_some_iff.mp H
        obtain ⟨⟨t101, t102, t103⟩, A60, H⟩ := H
        replace H : (if t103 = 0 then (if t101 > (IntKind.u64.wrap (a1)) then (some ((⟨#[]⟩ : ByteArray), 0, 2)) else (if (wrap64 (t101)) > (wrap64 ((a0.size : Int) - t102)) then (some ((⟨#[]⟩ : ByteArray), 0, 9)) else (if 0 ≤ t102 then (if t102 ≤ (a0.size : Int) then (if 0 ≤ t101 then (if t101 ≤ ((a0.extract (t102 : Int).toNat a0.size).size : Int) then (some ((a0.extract (t102 : Int).toNat a0.size).extract 0 (t101 : Int).toNat, wrap64 (t102 + (wrap64 (t101))), 0)) else (none)) else (none)) else (none)) else (none)))) else (some ((⟨#[]⟩ : ByteArray), 0, t103))) = some (r1, r2, r3) := H
        have A6 := Aside0.mk A60
        clear A60
        by_cases c7 : t103 = 0
        · rw [if_pos c7] at H
          have c7b0 : (t103 == 0) = true := beq_iff_eq.mpr c7
          have c7b1 : (t103 != 0) = false := bne_eq_false_iff_eq.mpr c7
          clear c7
          by_cases c8 : t101 > (IntKind.u64.wrap (a1))
          · rw [if_pos c8] at H
            have c8b0 : decide ((IntKind.u64.wrap (a1)) < t101) = true := decide_eq_true c8
            clear c8
            simp only [Option.some.injEq, Prod.mk.injEq] at H
            obtain ⟨rfl, rfl, rfl⟩ := H
            go_wp2_with (first | ((with_reducible refine gate_callee (f := 12) rfl ?_); refine goesL_ (some 18) rfl rfl Try.func12 (by kernel_rfl) rfl #[.string a0] rfl (by (try simp only [List.map_toArray, List.map_cons, List.map_nil]); first | done | rfl | (simp only [List.length_drop, List.length_take]; rfl)) ?_; (with_reducible refine (wire_Get.calls kj2 a0 t101 t102 t103 _ A6.out).mono ?_); rintro e w' ⟨rfl, ⟨nd, rfl⟩⟩; refine ⟨_, rfl, ?_⟩))
            go_ret3
            exact ⟨by first | rfl | (simp; done) | (simp [*]; done), by repeat (first | exact Drawn0.refl _ | apply Drawn0.step)⟩
          · rw [if_neg c8] at H
            have c8b0 : decide ((IntKind.u64.wrap (a1)) < t101) = false := decide_eq_false c8
            clear c8
            by_cases c9 : (wrap64 (t101)) > (wrap64 ((a0.size : Int) - t102))
            · rw [if_pos c9] at H
              have c9b0 : decide ((wrap64 ((a0.size : Int) - t102)) < (wrap64 (t101))) = true := decide_eq_true c9
              clear c9
              simp only [Option.some.injEq, Prod.mk.injEq] at H
              obtain ⟨rfl, rfl, rfl⟩ := H
              go_wp2_with (first | ((with_reducible refine gate_callee (f := 12) rfl ?_); refine goesL_ (some 18) rfl rfl Try.func12 (by kernel_rfl) rfl #[.string a0] rfl (by (try simp only [List.map_toArray, List.map_cons, List.map_nil]); first | done | rfl | (simp only [List.length_drop, List.length_take]; rfl)) ?_; (with_reducible refine (wire_Get.calls kj2 a0 t101 t102 t103 _ A6.out).mono ?_); rintro e w' ⟨rfl, ⟨nd, rfl⟩⟩; refine ⟨_, rfl, ?_⟩))
              go_ret3
              exact ⟨by first | rfl | (simp; done) | (simp [*]; done), by repeat (first | exact Drawn0.refl _ | apply Drawn0.step)⟩
            · rw [if_neg c9] at H
              have c9b0 : decide ((wrap64 ((a0.size : Int) - t102)) < (wrap64 (t101))) = false := decide_eq_false c9
              clear c9
              by_cases c10 : 0 ≤ t102
              · rw [if_pos c10] at H
                have c10b0 := eq_true c10
                have c10b1 : decide (0 ≤ t102) = true := decide_eq_true c10
                clear c10
                by_cases c11 : t102 ≤ (a0.size : Int)
                · rw [if_pos c11] at H
                  have c11b0 := eq_true c11
                  have c11b1 : decide (t102 ≤ (a0.size : Int)) = true := decide_eq_true c11
                  clear c11
                  by_cases c12 : 0 ≤ t101
                  · rw [if_pos c12] at H
                    have c12b0 := eq_true c12
                    have c12b1 : decide (0 ≤ t101) = true := decide_eq_true c12
                    clear c12
                    by_cases c13 : t101 ≤ ((a0.extract (t102 : Int).toNat a0.size).size : Int)
                    · rw [if_pos c13] at H
                      have c13b0 := eq_true c13
                      have c13b1 : decide (t101 ≤ ((a0.extract (t102 : Int).toNat a0.size).size : Int)) = true := decide_eq_true c13
                      have c13s := c13
                      try simp only [ByteArray.size_extract, Nat.min_self] at c13s
                      clear c13
                      simp only [Option.some.injEq, Prod.mk.injEq] at H
                      obtain ⟨rfl, rfl, rfl⟩ := H
                      go_wp2_with (first | ((with_reducible refine gate_callee (f := 12) rfl ?_); refine goesL_ (some 18) rfl rfl Try.func12 (by kernel_rfl) rfl #[.string a0] rfl (by (try simp only [List.map_toArray, List.map_cons, List.map_nil]); first | done | rfl | (simp only [List.length_drop, List.length_take]; rfl)) ?_; (with_reducible refine (wire_Get.calls kj2 a0 t101 t102 t103 _ A6.out).mono ?_); rintro e w' ⟨rfl, ⟨nd, rfl⟩⟩; refine ⟨_, rfl, ?_⟩))
                      go_ret3
                      exact ⟨by first | rfl | (simp; done) | (simp [*]; done), by repeat (first | exact Drawn0.refl _ | apply Drawn0.step)⟩
                    · rw [if_neg c13] at H
                      exact absurd H (by simp)
                  · rw [if_neg c12] at H
                    exact absurd H (by simp)
                · rw [if_neg c11] at H
                  exact absurd H (by simp)
              · rw [if_neg c10] at H
                exact absurd H (by simp)
        · rw [if_neg c7] at H
          have c7b0 : (t103 == 0) = false := beq_eq_false_iff_ne.mpr c7
          have c7b1 : (t103 != 0) = true := bne_iff_ne.mpr c7
          simp only [Option.some.injEq, Prod.mk.injEq] at H
          obtain ⟨rfl, rfl, rfl⟩ := H
          go_wp2_with (first | ((with_reducible refine gate_callee (f := 12) rfl ?_); refine goesL_ (some 18) rfl rfl Try.func12 (by kernel_rfl) rfl #[.string a0] rfl (by (try simp only [List.map_toArray, List.map_cons, List.map_nil]); first | done | rfl | (simp only [List.length_drop, List.length_take]; rfl)) ?_; (with_reducible refine (wire_Get.calls kj2 a0 t101 t102 t103 _ A6.out).mono ?_); rintro e w' ⟨rfl, ⟨nd, rfl⟩⟩; refine ⟨_, rfl, ?_⟩))
          go_ret3
          exact ⟨by first | rfl | (simp; done) | (simp [*]; done), by repeat (first | exact Drawn0.refl _ | apply Drawn0.step)⟩

end Go.Proofs.Ytfajpcinmpbhgaa.P
