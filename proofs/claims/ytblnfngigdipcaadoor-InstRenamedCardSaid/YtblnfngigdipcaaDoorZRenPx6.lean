/- Written for this claim by a program of this session: what the claim uses of lemmas and proved contracts of Go functions. -/
import Derived.Test.YtblnfngigdipcaaDoorZRenShelf
import Derived.Test.YtblnfngigdipcaaDoorZRenPx0
import Derived.Test.YtblnfngigdipcaaDoorZRenPx2
import Derived.Test.YtblnfngigdipcaaDoorZRenPx5
namespace Go.Proofs.YtblnfngigdipcaaDoor.P
open Go.RowKit Go.Proofs.YtblnfngigdipcaaDoorW.PrintWords Go.Proofs.YtblnfngigdipcaaDoorW.PrintLast Go.Proofs.YtblnfngigdipcaaDoorW.PrintMore
attribute [local go_sem] max2_int min2_int max_two min_two max_three min_three max_four min_four   -- for this text's walks alone
set_option linter.unusedVariables false
set_option linter.unusedSimpArgs false
def slices_Index_int_int.l0 : Nat → List Int → Int → Int → Int → Option (Int)
 | 0, _, _, _, _ => none
 | k + 1, x0, x1, x7, x8 => if x8 < x7 then (if 0 ≤ x8 then (if x8 < (x0.length : Int) then (if x1 = (rd x0 x8) then (some x8) else (slices_Index_int_int.l0 k x0 x1 x7 (wrap64 (x8 + 1)))) else (none)) else (none)) else (some (-1))
def slices_Index_int_int.f (k : Nat) (l0 : List Int) (a1 : Int) : Option (Int) := slices_Index_int_int.l0 k l0 a1 (l0.length : Int) 0
set_option maxHeartbeats 8000000 in
set_option maxRecDepth 100000 in
theorem slices_Index_int_int.calls (k : Nat) (A0 : Option Addr) (c0 : Nat) (l0 : List Int) (a1 : Int) (r : Int) (w : World) (hr0 : Kd.C (Kd.int .i64) w A0 l0.length l0) (hc0 : l0.length ≤ c0) (h : slices_Index_int_int.f k l0 a1 = some r) :
    Calls Tryd.prog 26 #[.slice A0 l0.length c0, .int .i64 a1] w fun e w' => e = .returned (.int .i64 r) ∧ Drawn0 w w' := by
 have HR0 := Aside0.mk hr0
 have HC0 := Aside0.mk hc0
 clear hr0 hc0
 have H : (slices_Index_int_int.l0 k l0 a1 (l0.length : Int) 0) = some r := h
 clear h
 have H' := Aside0.mk H
 clear H
 go_enter Tryd.func26, Tryd.ntmps26
 go_wp2
 go_loopg [8] k (fun kq v8 w' => ∃ (x8_1 : Int), v8 = .int .i64 x8_1 ∧ Aside0 (slices_Index_int_int.l0 kq l0 a1 (l0.length : Int) x8_1 = some r) ∧ Aside0 (kq ≤ k) ∧ Drawn0 w w')
 case atStart => exact ⟨(0), (by first | rfl | (simp; done) | (simp [*]; done)), H', ⟨Nat.le_refl _⟩, by repeat (first | exact Drawn0.refl _ | apply Drawn0.step)⟩
 case round =>
  clear H'
  try clear c2
  try clear p2
  obtain ⟨x8_1, rfl, HA, HK1, ⟨m1, rfl⟩⟩ := hrel
  cases gk with
  | zero => exact absurd HA.out (by simp [slices_Index_int_int.l0])
  | succ k1 =>
   have H := HA.out
   clear HA
   simp only [slices_Index_int_int.l0] at H
   by_cases c3 : x8_1 < (l0.length : Int)
   ·
    rw [if_pos c3] at H
    have c3b0 : decide (x8_1 < (l0.length : Int)) = true := decide_eq_true c3
    clear c3
    by_cases c4 : 0 ≤ x8_1
    ·
     rw [if_pos c4] at H
     have c4b0 : decide (0 ≤ x8_1) = true := decide_eq_true c4
     clear c4
     by_cases c5 : x8_1 < (l0.length : Int)
     ·
      rw [if_pos c5] at H
      have c5b0 : decide (x8_1 < (l0.length : Int)) = true := decide_eq_true c5
      clear c5
      by_cases c6 : a1 = (rd l0 x8_1)
      ·
       rw [if_pos c6] at H
       have c6b0 : (a1 == (rd l0 x8_1)) = true := beq_iff_eq.mpr c6
       have c6b1 : (a1 != (rd l0 x8_1)) = false := bne_eq_false_iff_eq.mpr c6
       clear c6
       obtain rfl := Option.some.inj H
       have p142 : 0 ≤ (x8_1 : Int) := of_decide_eq_true (by first | (with_reducible assumption) | assumption)
       have q142 : x8_1 < (l0.length : Int) := of_decide_eq_true (by first | (with_reducible assumption) | assumption)
       obtain ⟨ad142, e142, hx142_0⟩ := Kd.at_int HR0.out x8_1 p142 q142
       cases e142
       replace p142 := eq_true p142
       replace q142 := eq_true q142
       go_wp2
       go_ret
       exact ⟨by first | rfl | (simp; done) | (simp [*]; done), by repeat (first | exact Drawn0.refl _ | apply Drawn0.step)⟩
      ·
       rw [if_neg c6] at H
       have c6b0 : (a1 == (rd l0 x8_1)) = false := beq_eq_false_iff_ne.mpr c6
       have c6b1 : (a1 != (rd l0 x8_1)) = true := bne_iff_ne.mpr c6
       have H' := Aside0.mk H
       clear H
       have p142 : 0 ≤ (x8_1 : Int) := of_decide_eq_true (by first | (with_reducible assumption) | assumption)
       have q142 : x8_1 < (l0.length : Int) := of_decide_eq_true (by first | (with_reducible assumption) | assumption)
       obtain ⟨ad142, e142, hx142_0⟩ := Kd.at_int HR0.out x8_1 p142 q142
       cases e142
       replace p142 := eq_true p142
       replace q142 := eq_true q142
       go_wp2
       go_roundg k1
       case measure => have := HK1.out; omega
       case rel => exact ⟨(wrap64 (x8_1 + 1)), (by first | rfl | (simp; done) | (simp [*]; done)), H', ⟨by have := HK1.out; omega⟩, by repeat (first | exact Drawn0.refl _ | apply Drawn0.step)⟩
     ·
      rw [if_neg c5] at H
      exact absurd H (by simp)
    ·
     rw [if_neg c4] at H
     exact absurd H (by simp)
   ·
    rw [if_neg c3] at H
    have c3b0 : decide (x8_1 < (l0.length : Int)) = false := decide_eq_false c3
    clear c3
    obtain rfl := Option.some.inj H
    go_wp2
    go_ret
    exact ⟨by first | rfl | (simp; done) | (simp [*]; done), by repeat (first | exact Drawn0.refl _ | apply Drawn0.step)⟩
def slices_Contains_int_int.f (k : Nat) (l0 : List Int) (a1 : Int) : Option (Bool) := (slices_Index_int_int.f k l0 a1).bind fun t143 => (some (decide (t143 ≥ 0)))
set_option maxHeartbeats 8000000 in
set_option maxRecDepth 100000 in
theorem slices_Contains_int_int.calls (k : Nat) (A0 : Option Addr) (c0 : Nat) (l0 : List Int) (a1 : Int) (r : Bool) (w : World) (hr0 : Kd.C (Kd.int .i64) w A0 l0.length l0) (hc0 : l0.length ≤ c0) (h : slices_Contains_int_int.f k l0 a1 = some r) :
    Calls Tryd.prog 22 #[.slice A0 l0.length c0, .int .i64 a1] w fun e w' => e = .returned (.bool r) ∧ Drawn0 w w' := by
 have HR0 := Aside0.mk hr0
 have HC0 := Aside0.mk hc0
 clear hr0 hc0
 have H : ((slices_Index_int_int.f k l0 a1).bind fun t143 => (some (decide (t143 ≥ 0)))) = some r := h
 clear h
 replace H := Option.bind_eq_some_iff.mp H
 obtain ⟨t143, A30, H⟩ := H
 replace H : (some (decide (t143 ≥ 0))) = some r := H
 have A3 := Aside0.mk A30
 clear A30
 obtain rfl := Option.some.inj H
 go_enter Tryd.func22, Tryd.ntmps22
 go_wp2_with (first | ((with_reducible refine gate_callee (f := 26) rfl ?_); refine goesL_ (some 7) rfl rfl Tryd.func26 (by kernel_rfl) rfl #[.slice A0 l0.length c0, .int .i64 a1] rfl (by (try simp only [List.map_toArray, List.map_cons, List.map_nil]); first | done | rfl | (simp only [List.length_drop, List.length_take]; rfl)) ?_; (with_reducible refine (slices_Index_int_int.calls k _ _ l0 a1 t143 _ ?side1 ?side2 A3.out).mono ?_); (case side1 => repeat (first | exact HR0.out | (with_reducible refine Kd.C_alloc ?_ _) | (with_reducible refine Kd.C_drewN ?_ _) | (with_reducible refine Kd.C_drew ?_))); (case side2 => exact HC0.out); rintro e w' ⟨rfl, ⟨nd, rfl⟩⟩; refine ⟨_, rfl, ?_⟩))
 go_ret
 exact ⟨by first | rfl | (simp; done) | (simp [*]; done), by repeat (first | exact Drawn0.refl _ | apply Drawn0.step)⟩
def inst_keeps.f (k : Nat) (a0 : Int) : Option (Bool) := (slices_Contains_int_int.f k (([23, 25, 32, 33] : List Int)) a0).bind fun t147 => (some t147)
set_option maxHeartbeats 8000000 in
set_option maxRecDepth 100000 in
theorem inst_keeps.calls (k : Nat) (a0 : Int) (r : Bool) (w : World) (h : inst_keeps.f k a0 = some r) :
    Calls Tryd.prog 19 #[.int .i64 a0] w fun e w' => e = .returned (.bool r) ∧ Below w.heap.size w w' := by
 have HB := Aside0.mk (Below.refl w.heap.size w)
 have H : ((slices_Contains_int_int.f k (([23, 25, 32, 33] : List Int)) a0).bind fun t147 => (some t147)) = some r := h
 clear h
 obtain ⟨y144, hy144⟩ : ∃ y_ : List Int, y_ = (([23, 25, 32, 33] : List Int)) := ⟨_, rfl⟩
 replace H : ((slices_Contains_int_int.f k y144 a0).bind fun t147 => (some t147)) = some r := by first | (rw [hy144]; with_reducible exact H) | (have H2_ := (Option.bind_some _ _).symm.trans H; rw [hy144]; with_reducible exact H2_) | (have H2_ := (Option.bind_some _ _).symm.trans H; with_reducible exact H2_) | with_reducible exact H | (rw [hy144]; exact H) | exact H
 have Ny144 := Aside0.mk hy144
 clear hy144
 replace H := Option.bind_eq_some_iff.mp H
 obtain ⟨t147, A20, H⟩ := H
 replace H : (some t147) = some r := H
 have A2 := Aside0.mk A20
 clear A20
 obtain rfl := Option.some.inj H
 go_enter Tryd.func19, Tryd.ntmps19
 go_wp2_with (first | ((with_reducible refine gate_dst (N := 3) rfl ?_); refine Kd.R_lit (Kd.int .i64) _ 3 ?hg (N := 3) ?hd (xs := ([23, 25, 32, 33] : List Int)) (inner := [.int .i64 23, .int .i64 25, .int .i64 32, .int .i64 33]) (ok := fun _ => True) (okp := fun _ => True) ?hr ?hp (fun _ hk => hk) trivial (Below.refl _ _) (Nat.le_refl _) (by simp) ?_; (case hd => rfl); (case hg => rfl); (case hr => first | (go_simp; done) | (go_simp; rfl)); (case hp => exact (Reps.one (show Kd.M (Kd.int .i64) _ _ _ 23 [.int .i64 23] from rfl) (Reps.one (show Kd.M (Kd.int .i64) _ _ _ 25 [.int .i64 25] from rfl) (Reps.one (show Kd.M (Kd.int .i64) _ _ _ 32 [.int .i64 32] from rfl) (Reps.one (show Kd.M (Kd.int .i64) _ _ _ 33 [.int .i64 33] from rfl) (Reps.none _ _)))))); intro v145 w3 ho4 hb hg_ hnew_; clear hg_ hnew_; (first | rw [← Ny144.out] at ho4 | (simp only [Int.reduceToNat] at ho4; rw [← Ny144.out] at ho4)); have n0_ := Aside0.mk (Kd.R_lower ho4 (below_size (by repeat (first | (with_reducible first | exact HB.out | apply below_alloc | apply pw_below_drewN | apply below_drew1) | exact HB.out)))); have n1_ := Aside0.mk (below_step (by repeat (first | (with_reducible first | exact HB.out | apply below_alloc | apply pw_below_drewN | apply below_drew1) | exact HB.out)) hb); clear HB; have HO146 := n0_; have HB := n1_; clear n0_ n1_; clear hb ho4; obtain ⟨Ao5, co5, eo5⟩ := Kd.R_slice HO146.out; subst eo5) | ((with_reducible refine gate_callee (f := 22) rfl ?_); refine goesL_ (some 5) rfl rfl Tryd.func22 (by kernel_rfl) rfl #[.slice Ao5 y144.length co5, .int .i64 a0] rfl (by (try simp only [List.map_toArray, List.map_cons, List.map_nil]); first | done | rfl | (simp only [List.length_drop, List.length_take]; rfl)) ?_; (with_reducible refine (slices_Contains_int_int.calls k _ _ y144 a0 t147 _ ?side1 ?side2 A2.out).mono ?_); (case side1 => repeat (first | exact (Kd.R_reads' HO146.out).2.2 | (with_reducible refine Kd.C_alloc ?_ _) | (with_reducible refine Kd.C_drewN ?_ _) | (with_reducible refine Kd.C_drew ?_))); (case side2 => exact (Kd.R_reads' HO146.out).2.1); rintro e w' ⟨rfl, ⟨nd, rfl⟩⟩; refine ⟨_, rfl, ?_⟩))
 go_ret
 exact ⟨by first | rfl | (simp [errW_none, errW_some] <;> rfl) | (simp [*, errW_none, errW_some] <;> rfl), by repeat (first | (with_reducible first | exact HB.out | apply below_alloc | apply pw_below_drewN | apply below_drew1) | exact HB.out)⟩

-- NOT PRINTED: function 55 (cmp_isNaN_int)

-- NOT PRINTED: function 40 (cmp_Less_int)

-- NOT PRINTED: function 34 (slices_insertionSortOrdered_int)

-- NOT PRINTED: function 50 (slices_siftDownOrdered_int)

-- NOT PRINTED: function 35 (slices_heapSortOrdered_int)

-- NOT PRINTED: function 43 (bits_Len32)

-- NOT PRINTED: function 25 (bits_Len)

-- NOT PRINTED: function 51 (slices_nextPowerOfTwo)

-- NOT PRINTED: function 52 (slices_xorshift_Next)

-- NOT PRINTED: function 36 (slices_breakPatternsOrdered_int)

-- NOT PRINTED: function 56 (slices_order2Ordered_int)

-- NOT PRINTED: function 54 (slices_medianOrdered_int)

-- NOT PRINTED: function 53 (slices_medianAdjacentOrdered_int)

-- NOT PRINTED: function 37 (slices_choosePivotOrdered_int)

-- NOT PRINTED: function 38 (slices_reverseRangeOrdered_int)

-- NOT PRINTED: function 39 (slices_partialInsertionSortOrdered_int)

-- NOT PRINTED: function 41 (slices_partitionEqualOrdered_int)

-- NOT PRINTED: function 42 (slices_partitionOrdered_int)

-- NOT PRINTED: function 24 (slices_pdqsortOrdered_int)

-- NOT PRINTED: function 20 (slices_Sort_int_int)

-- NOT PRINTED: function 21 (slices_Compact_int_int)
-- IMPORT Derived.Test.YtblnfngigdipcaaDoorShelf
/-- What the closure of Reads puts. -/
def reads_put (has : Bool) (x : Int) (sp : Bool) (xs : List Int) : List Int := if has = true ∧ (x < 31 ∨ sp = true) then xs ++ [x] else xs
theorem reads_put_len (has : Bool) (x : Int) (sp : Bool) (xs : List Int) : (reads_put has x sp xs).length ≤ xs.length + 1 := by unfold reads_put; split <;> simp
theorem box_cell {W : World} {G : Nat} {v : Value} {t : TypeId} (h : W.heap[G]? = some (.cells #[v] t (0, 0))) : W.cell? ⟨G, 0, none⟩ = some v ∧ W.frozen? ⟨G, 0, none⟩ = false := by
  constructor
  · simp [World.cell?, h]
  · simp [World.frozen?, h]
theorem box_set {W : World} {G : Nat} {v u : Value} {t : TypeId} (h : W.heap[G]? = some (.cells #[v] t (0, 0))) : (W.setCell ⟨G, 0, none⟩ u).heap[G]? = some (.cells #[u] t (0, 0)) := by
  simp [World.setCell, Array.getElem?_modify, h]
theorem own_slice {W : World} {base n : Nat} {e : TypeId} {v : Value} {xs : List Value} (h : W.ownsRow base e 1 v n xs) : ∃ A c, v = .slice A n c := by
  rcases h.2 with ⟨rfl, rfl⟩ | ⟨g, cap, cur, rfl, _⟩
  · exact ⟨_, _, rfl⟩
  · exact ⟨_, _, rfl⟩
theorem own_set {W : World} {G n : Nat} {e : TypeId} {v u : Value} {xs : List Value} (h : W.ownsRow (G + 1) e 1 v n xs) : (W.setCell ⟨G, 0, none⟩ u).ownsRow (G + 1) e 1 v n xs :=
  own_move h fun k hk => Below.heap_setCell W _ u k (by have := own_base h k hk; show k ≠ G; omega)
set_option maxHeartbeats 8000000 in
set_option maxRecDepth 100000 in
theorem reads_putCalls (G : Nat) (v : Value) (xs : List Int) (has : Bool) (x : Int) (sp : Bool) (W : World) (hG : W.heap[G]? = some (.cells #[v] 28 (0, 0))) (hO : W.ownsRow (G + 1) 3 1 v xs.length (nums .i64 xs)) (hl : xs.length ≤ 100) (hlt : G + 1 ≤ W.heap.size) :
    Calls Tryd.prog 18 #[.bool has, .int .i64 x, .bool sp, .pointer (some ⟨G, 0, none⟩)] W fun e w' => e = .returned (.tuple #[]) ∧ ∃ v1, w'.heap[G]? = some (.cells #[v1] 28 (0, 0)) ∧
      w'.ownsRow (G + 1) 3 1 v1 (reads_put has x sp xs).length (nums .i64 (reads_put has x sp xs)) ∧ Below G W w' := by
  obtain ⟨hc, hf⟩ := box_cell hG
  obtain ⟨A, c, rfl⟩ := own_slice hO
  by_cases hp : has = true ∧ (x < 31 ∨ sp = true)
  · have e : reads_put has x sp xs = xs ++ [x] := if_pos hp
    rw [e]
    have HO := Aside0.mk hO
    have HG := Aside0.mk hG
    have HL := Aside0.mk hl
    have HT := Aside0.mk hlt
    obtain ⟨rfl, hx⟩ := hp
    clear hO hG hl hlt e
    by_cases h31 : x < 31
    · go_enter Tryd.func18, Tryd.ntmps18
      go_wp2_with (first | ((with_reducible refine gate_builtin (b := .append) (xs := #[.tmp 15, .tmp 17]) rfl ?_); at_builtin; refine print_append_num (w0 := W) (G + 1) rfl (.tmp 15) (.tmp 17) 28 3 .i64 8 rfl Tryd.underlying28 info3 (by omega) (.slice A xs.length c) xs x rfl rfl HO.out (Below.refl _ _) HT.out (by have := HL.out; omega) ?_; intro v1 w1 hown hB _ _; obtain ⟨A1, c1, rfl⟩ := own_slice hown; have hG1 := (hB.block G (by omega)).trans HG.out; have HC1 := Aside0.mk (own_set (u := .slice A1 (xs ++ [x]).length c1) hown); have HC2 := Aside0.mk (box_set (u := .slice A1 (xs ++ [x]).length c1) hG1); have HC3 := Aside0.mk hB; obtain ⟨hc1, hf1⟩ := box_cell hG1; clear hG1 hown hB))
      refine bodyPost_end (results_none rfl _ _ _) rfl ?_
      have e1 := HC1.out
      have e2 := HC2.out
      simp only [List.length_append, List.length_singleton] at e1 e2 ⊢
      exact ⟨trivial, _, e2, e1, (HC3.out.mono (Nat.le_succ _)).setCell (Nat.le_refl _) _⟩
    · have hs : sp = true := hx.resolve_left h31
      subst hs
      clear hx
      go_enter Tryd.func18, Tryd.ntmps18
      go_wp2_with (first | ((with_reducible refine gate_builtin (b := .append) (xs := #[.tmp 15, .tmp 17]) rfl ?_); at_builtin; refine print_append_num (w0 := W) (G + 1) rfl (.tmp 15) (.tmp 17) 28 3 .i64 8 rfl Tryd.underlying28 info3 (by omega) (.slice A xs.length c) xs x rfl rfl HO.out (Below.refl _ _) HT.out (by have := HL.out; omega) ?_; intro v1 w1 hown hB _ _; obtain ⟨A1, c1, rfl⟩ := own_slice hown; have hG1 := (hB.block G (by omega)).trans HG.out; have HC1 := Aside0.mk (own_set (u := .slice A1 (xs ++ [x]).length c1) hown); have HC2 := Aside0.mk (box_set (u := .slice A1 (xs ++ [x]).length c1) hG1); have HC3 := Aside0.mk hB; obtain ⟨hc1, hf1⟩ := box_cell hG1; clear hG1 hown hB))
      refine bodyPost_end (results_none rfl _ _ _) rfl ?_
      have e1 := HC1.out
      have e2 := HC2.out
      simp only [List.length_append, List.length_singleton] at e1 e2 ⊢
      exact ⟨trivial, _, e2, e1, (HC3.out.mono (Nat.le_succ _)).setCell (Nat.le_refl _) _⟩
  · have e : reads_put has x sp xs = xs := if_neg hp
    rw [e]
    have HO := Aside0.mk hO
    have HG := Aside0.mk hG
    clear hO hl hlt e
    cases has
    · go_enter Tryd.func18, Tryd.ntmps18
      go_wp2
      refine bodyPost_end (results_none rfl _ _ _) rfl ?_
      exact ⟨rfl, _, HG.out, HO.out, Below.refl _ _⟩
    · have h31 : ¬ x < 31 := fun h => hp ⟨rfl, .inl h⟩
      have hs : sp = false := by cases sp; rfl; exact absurd ⟨rfl, .inr rfl⟩ hp
      subst hs
      clear hp
      go_enter Tryd.func18, Tryd.ntmps18
      go_wp2
      refine bodyPost_end (results_none rfl _ _ _) rfl ?_
      exact ⟨rfl, _, HG.out, HO.out, Below.refl _ _⟩
/-- A row of the call's own, not nil, as the shelf's laws on sorts tell it. -/
theorem own_holds {W : World} {base g n c : Nat} {xs : List Int} (h : W.ownsRow base 3 1 (.slice (some ⟨g, 0, none⟩) n c) n (nums .i64 xs)) : Sort.Holds (Value.int .i64) W g 0 xs.toArray ∧ g < W.heap.size ∧ base ≤ g ∧ xs.length = n ∧ n ≤ c := by
  have hl : xs.length = n := by have := h.1; simp [nums] at this; exact this
  rcases h.2 with ⟨h2, _⟩ | ⟨g', cap, cur, he, hg, hh, hn, hm, hs, ht⟩
  · simp at h2
  · simp at he
    obtain ⟨rfl, rfl⟩ := he
    refine ⟨fun j hj => ?_, (Array.getElem?_eq_some_iff.1 hh).1, hg, hl, hn⟩
    have hj' : j < xs.length := by simpa using hj
    have hcur : cur[j]? = some (.int .i64 xs[j]) := by
      have e := congrArg (·[j]?) ht
      simp only [nums, List.getElem?_map, List.getElem?_eq_getElem hj', Option.map_some] at e
      rw [List.getElem?_take_of_lt (by omega)] at e
      simpa using e
    constructor
    · simp [World.cell?, hh, hcur, hj']
    · simp [World.frozen?, hh]
/-- Behind the shelf's sort (or its like) the row is the call's own still, with the new elements; the blocks ahead of it stay. -/
theorem put_own {W : World} {base g n c q : Nat} {os : Array Obj} {xs ys : List Int} (h : W.ownsRow base 3 1 (.slice (some ⟨g, 0, none⟩) n c) n (nums .i64 xs)) (hy : ys.length = xs.length) :
    (Sort.grow (Sort.putRow (Value.int .i64) (Sort.ahead W q) g 0 ys.toArray) os).ownsRow base 3 1 (.slice (some ⟨g, 0, none⟩) n c) n (nums .i64 ys) ∧ Below g W (Sort.grow (Sort.putRow (Value.int .i64) (Sort.ahead W q) g 0 ys.toArray) os) := by
  have hl : xs.length = n := by have := h.1; simp [nums] at this; exact this
  rcases h.2 with ⟨h2, _⟩ | ⟨g', cap, cur, he, hg, hh, hn, hm, hs, ht⟩
  · simp at h2
  · simp at he
    obtain ⟨rfl, rfl⟩ := he
    have hlt : g < W.heap.size := (Array.getElem?_eq_some_iff.1 hh).1
    have hheap : ∀ k, k < W.heap.size → (Sort.grow (Sort.putRow (Value.int .i64) (Sort.ahead W q) g 0 ys.toArray) os).heap[k]? = if g = k then (W.heap[k]?).map (Sort.onCells (Sort.putCells (Value.int .i64) 0 ys.toArray)) else W.heap[k]? := by
      intro k hk
      rw [Sort.heap_grow_old _ _ (by simpa [Sort.putRow, Sort.mapBlock, Sort.ahead] using hk)]
      simp [Sort.putRow, Sort.mapBlock, Sort.ahead, Array.getElem?_modify]
    refine ⟨⟨by simp [nums]; omega, .inr ⟨g, c, Sort.putCells (Value.int .i64) 0 ys.toArray cur, rfl, hg, ?_, hn, hm, ?_, ?_⟩⟩, ?_⟩
    · rw [hheap g hlt, if_pos rfl, hh]; rfl
    · simp [Sort.putCells, hs]
    · apply List.ext_getElem?
      intro j
      simp only [nums, List.getElem?_map]
      by_cases hj : j < n
      · rw [List.getElem?_take_of_lt (by omega)]
        have hjc : j < cur.size := by omega
        simp [Sort.putCells, List.getElem?_eq_getElem (show j < ys.length by omega), hjc, show j < ys.length by omega]
      · rw [List.getElem?_eq_none (by simp; omega), List.getElem?_eq_none (by omega)]; rfl
    · exact ⟨rfl, rfl, rfl, by simp [Sort.grow, Sort.putRow, Sort.mapBlock, Sort.ahead], fun k hk => by rw [hheap k (by omega), if_neg (by omega)]⟩
/-- The beginning of a row of the call's own. -/
theorem own_cut {W : World} {base g n c : Nat} {ys zs : List Int} (h : W.ownsRow base 3 1 (.slice (some ⟨g, 0, none⟩) n c) n (nums .i64 (ys ++ zs))) : W.ownsRow base 3 1 (.slice (some ⟨g, 0, none⟩) ys.length c) ys.length (nums .i64 ys) := by
  have hl : ys.length + zs.length = n := by have := h.1; simp [nums] at this; exact this
  rcases h.2 with ⟨h2, _⟩ | ⟨g', cap, cur, he, hg, hh, hn, hm, hs, ht⟩
  · simp at h2
  · simp at he
    obtain ⟨rfl, rfl⟩ := he
    refine ⟨by simp [nums], .inr ⟨g, c, cur, rfl, hg, hh, by omega, hm, hs, ?_⟩⟩
    have e := congrArg (List.take ys.length) ht
    rw [List.take_take, Nat.min_eq_left (by omega)] at e
    rw [Nat.mul_one, e]
    simp [nums]
/-- .. as the print tells a row. -/
theorem own_R {W : World} {base : Nat} {v : Value} {xs : List Int} (h : W.ownsRow base 3 1 v xs.length (nums .i64 xs)) : Kd.R (Kd.int .i64) 3 W base (fun _ => True) v xs := ⟨fun _ _ => trivial, nums .i64 _, h, Kd.reps_scalar _⟩
theorem lt_alloc_ (w : World) (o : Obj) : w.heap.size < (w.alloc o).heap.size := by
  show w.heap.size < (w.heap.push o).size
  rw [Array.size_push]; exact Nat.lt_succ_self _
/-- Sort, at a row of the call's own. -/
theorem reads_sort {W : World} {base : Nat} {v : Value} {xs : List Int} (h : W.ownsRow base 3 1 v xs.length (nums .i64 xs)) (hl : xs.length ≤ 100) :
    Calls Tryd.prog 20 #[v] W fun e w' => e = .returned (.tuple #[]) ∧ w'.ownsRow base 3 1 v (xs.mergeSort fun x y => decide (x ≤ y)).length (nums .i64 (xs.mergeSort fun x y => decide (x ≤ y))) ∧ Below base W w' := by
  rcases h.2 with ⟨h1, h2⟩ | ⟨g, cap, cur, rfl, hg, hh, hn, hm, hs, ht⟩
  · subst h1
    have h0 : xs = [] := List.length_eq_zero_iff.1 h2
    subst h0
    refine (Tryd.slices_Sort_int_none _ _ W).mono ?_
    rintro e w' ⟨rfl, rfl⟩
    exact ⟨rfl, by simpa using h, Below.refl _ _⟩
  · obtain ⟨a1, a2, a3, a4, a5⟩ := own_holds h
    refine (Tryd.slices_Sort_int g 0 cap xs W a1 a2 (by omega)).mono ?_
    rintro e w' ⟨rfl, n, os, rfl⟩
    have p := put_own (q := n) (os := os) (ys := xs.mergeSort fun x y => decide (x ≤ y)) h (by simp)
    refine ⟨rfl, ?_, p.2.mono a3⟩
    have := p.1
    simpa using this
/-- Compact, at a row of the call's own. -/
theorem reads_compact {W : World} {base : Nat} {v : Value} {xs : List Int} (h : W.ownsRow base 3 1 v xs.length (nums .i64 xs)) (hl : xs.length ≤ 100) :
    Calls Tryd.prog 21 #[v] W fun e w' => ∃ v', e = .returned v' ∧ w'.ownsRow base 3 1 v' (Lib.compact xs).length (nums .i64 (Lib.compact xs)) ∧ Below base W w' := by
  rcases h.2 with ⟨h1, h2⟩ | ⟨g, cap, cur, rfl, hg, hh, hn, hm, hs, ht⟩
  · subst h1
    have h0 : xs = [] := List.length_eq_zero_iff.1 h2
    subst h0
    refine (Tryd.slices_Compact_int_empty _ _ W).mono ?_
    rintro e w' ⟨rfl, rfl⟩
    exact ⟨_, rfl, h, Below.refl _ _⟩
  · obtain ⟨a1, a2, a3, a4, a5⟩ := own_holds h
    refine (Tryd.slices_Compact_int g 0 cap xs W a1 (by omega) (by omega)).mono ?_
    rintro e w' ⟨rfl, q, rfl⟩
    have hc := Lib.compact_length_le xs
    have p := put_own (q := q) (os := #[]) (ys := Lib.compact xs ++ List.replicate (xs.length - (Lib.compact xs).length) 0) h (by simp; omega)
    rw [Sort.grow_empty] at p
    have p1 := p.1
    exact ⟨_, rfl, own_cut p1, p.2.mono a3⟩
theorem own_down {W : World} {base base' n : Nat} {e : TypeId} {v : Value} {xs : List Value} (h : W.ownsRow base e 1 v n xs) (hb : base' ≤ base) : W.ownsRow base' e 1 v n xs :=
  ⟨h.1, h.2.imp id fun ⟨g, cap, cur, a, b, c⟩ => ⟨g, cap, cur, a, Nat.le_trans hb b, c⟩⟩
theorem alloc2_last (w : World) (o1 o2 : Obj) : ((w.alloc o1).alloc o2).heap[w.heap.size + 1]? = some o2 := by
  have e : w.heap.size + 1 = (w.alloc o1).heap.size := by show _ = (w.heap.push o1).size; rw [Array.size_push]
  rw [e]
  exact heap_last_ (w.alloc o1) o2
theorem alloc2_size (w : World) (o1 o2 : Obj) : w.heap.size + 1 + 1 ≤ ((w.alloc o1).alloc o2).heap.size := by
  show _ ≤ ((w.heap.push o1).push o2).size
  rw [Array.size_push, Array.size_push]
  exact Nat.le_refl _
theorem own_nil_ (w : World) (base : Nat) (e : TypeId) : w.ownsRow base e 1 (.slice none 0 0) ([] : List Int).length (nums .i64 []) := ⟨rfl, .inl ⟨rfl, rfl⟩⟩
theorem reads_own_le {W : World} {base m : Nat} {v : Value} {has sp : Bool} {x : Int} {xs : List Int} (_h : W.ownsRow base 3 1 v (reads_put has x sp xs).length (nums .i64 (reads_put has x sp xs))) (hl : xs.length ≤ m) : (reads_put has x sp xs).length ≤ m + 1 :=
  Nat.le_trans (reads_put_len has x sp xs) (Nat.succ_le_succ hl)
/-- What Reads gathers, ahead of the sort. -/
def reads_all (sd sn sm sa stack kp : Bool) (op d n m a : Int) : List Int :=
  reads_put (op == 37) 0 false (reads_put (kp || op == 3) d false (reads_put sa a false (reads_put sm m false (reads_put sn n stack []))))
def inst_Reads.f (k : Nat) (a0_0 a0_1 a0_2 a0_3 a0_4 a0_5 a0_6 a0_7 a0_8 a0_9 : Int) : Option (List Int) :=
  (inst_Is.f k a0_0 a0_1 a0_2 a0_3 a0_4 a0_5 a0_6 a0_7 a0_8 a0_9).bind fun t => if t = true then
    (inst_Shape.f a0_0).bind fun n => (inst_shapeOf.f n).bind fun s => (inst_keeps.f k a0_0).bind fun kp =>
      some (Lib.compact ((reads_all s.1 s.2.1 s.2.2.1 s.2.2.2.1 s.2.2.2.2.2.2.2.2.2.2.2 kp a0_0 a0_1 a0_2 a0_3 a0_4).mergeSort fun x y => decide (x ≤ y)))
  else some []
set_option maxHeartbeats 8000000 in
set_option maxRecDepth 100000 in
theorem inst_Reads.calls (k : Nat) (a0_0 a0_1 a0_2 a0_3 a0_4 a0_5 a0_6 a0_7 a0_8 a0_9 : Int) (r : List Int) (w : World) (h : inst_Reads.f k a0_0 a0_1 a0_2 a0_3 a0_4 a0_5 a0_6 a0_7 a0_8 a0_9 = some r) (hTab : TabW w := by first | exact hTab | exact TabW.drew hTab | exact TabW.drewN hTab _ | exact TabW.below hTab (by repeat (first | (with_reducible first | exact HB.out | apply below_alloc | apply pw_below_drewN | apply below_drew1) | refine Below.setCell ?_ (Aside0.out (by assumption)) _ | exact HB.out | exact Below.refl _ _))) :
    Calls Tryd.prog 8 #[.agg #[.int .i64 a0_0, .int .i64 a0_1, .int .i64 a0_2, .int .i64 a0_3, .int .i64 a0_4, .int .i64 a0_5, .int .u64 a0_6, .int .i64 a0_7, .int .i64 a0_8, .int .i64 a0_9]] w fun e w' => ∃ v0_ : Value, e = .returned (v0_) ∧ Kd.R (Kd.int .i64) 3 w' w.heap.size (fun _ => True) v0_ r ∧ Below w.heap.size w w' := by
  unfold inst_Reads.f at h
  obtain ⟨t, ht, h⟩ := Option.bind_eq_some_iff.mp h
  have A1 := Aside0.mk ht
  have HT := Aside0.mk (fun (W : World) (hb : Below w.heap.size w W) => TabW.below hTab hb)
  clear ht hTab
  by_cases c : t = true
  · subst c
    rw [if_pos rfl] at h
    obtain ⟨n, h1, h⟩ := Option.bind_eq_some_iff.mp h
    obtain ⟨⟨r1, r2, r3, r4, r5, r6, r7, r8, r9, r10, r11, r12⟩, h2, h⟩ := Option.bind_eq_some_iff.mp h
    obtain ⟨kp, h3, h⟩ := Option.bind_eq_some_iff.mp h
    have A2 := Aside0.mk h1
    have A3 := Aside0.mk h2
    have A4 := Aside0.mk h3
    have A5 := Aside0.mk (Option.some.inj h)
    clear h1 h2 h3 h
    go_enter Tryd.func8, Tryd.ntmps8
    go_wp2_with (first | (go_at_call 18; refine (reads_putCalls _ _ _ _ _ _ _ HG.out HO.out (Nat.le_trans HL.out (by decide)) HS.out).mono ?_; rintro e W1 ⟨rfl, v1, g1, o1, b1⟩; have n1_ := Aside0.mk ((b1.block w.heap.size (by have := HW.out; omega)).trans BK.out); have n2_ := Aside0.mk (HB.out.trans (b1.mono (by have := HW.out; omega))); have n3_ := Aside0.mk ((b1.block w3.heap.size (by omega)).trans S3.out); have n4_ := Aside0.mk (Nat.le_trans HS.out b1.size); have n5_ := Aside0.mk (reads_own_le o1 HL.out); have n6_ := Aside0.mk g1; have n7_ := Aside0.mk o1; clear BK HB S3 HG HO HS HL g1 o1 b1 hcB0 hcB1 hcB2 hcB3 hcB4 hcS0 hcS1 hcS2 hcS3 hcG hfG; have BK := n1_; have HB := n2_; have S3 := n3_; have HS := n4_; have HL := n5_; have HG := n6_; have HO := n7_; clear n1_ n2_ n3_ n4_ n5_ n6_ n7_; have hcB0 := (blk_cell BK.out 0).trans rfl; have hcB1 := (blk_cell BK.out 1).trans rfl; have hcB2 := (blk_cell BK.out 2).trans rfl; have hcB3 := (blk_cell BK.out 3).trans rfl; have hcB4 := (blk_cell BK.out 4).trans rfl; have hcS0 := (blk_cell S3.out 0).trans rfl; have hcS1 := (blk_cell S3.out 1).trans rfl; have hcS2 := (blk_cell S3.out 2).trans rfl; have hcS3 := (blk_cell S3.out 3).trans rfl; obtain ⟨hcG, hfG⟩ := box_cell HG.out) | (go_at_call 18; refine (reads_putCalls (w3.heap.size + 1) (.slice none 0 0) [] _ _ _ _ (alloc2_last _ _ _) (own_nil_ _ _ _) (Nat.zero_le _) (alloc2_size _ _ _)).mono ?_; rintro e W1 ⟨rfl, v1, g1, o1, b1⟩; have HW := Aside0.mk (Array.getElem?_eq_some_iff.1 BK.out).1; have n1_ := Aside0.mk ((b1.block w.heap.size (by have := HW.out; omega)).trans (blk_alloc (blk_alloc BK.out _) _)); have n2_ := Aside0.mk ((below_alloc (below_alloc HB.out _) _).trans (b1.mono (by have := HW.out; omega))); have n3_ := Aside0.mk ((b1.block w3.heap.size (by omega)).trans (blk_alloc (heap_last_ w3 _) _)); have n4_ := Aside0.mk (Nat.le_trans (alloc2_size w3 _ _) b1.size); have n5_ := Aside0.mk (show (reads_put r2 a0_2 r12 []).length ≤ 1 from reads_put_len r2 a0_2 r12 []); have n6_ := Aside0.mk g1; have n7_ := Aside0.mk o1; clear BK HB hq2 g1 o1 b1; have BK := n1_; have HB := n2_; have S3 := n3_; have HS := n4_; have HL := n5_; have HG := n6_; have HO := n7_; clear n1_ n2_ n3_ n4_ n5_ n6_ n7_; have hcB0 := (blk_cell BK.out 0).trans rfl; have hcB1 := (blk_cell BK.out 1).trans rfl; have hcB2 := (blk_cell BK.out 2).trans rfl; have hcB3 := (blk_cell BK.out 3).trans rfl; have hcB4 := (blk_cell BK.out 4).trans rfl; have hcS0 := (blk_cell S3.out 0).trans rfl; have hcS1 := (blk_cell S3.out 1).trans rfl; have hcS2 := (blk_cell S3.out 2).trans rfl; have hcS3 := (blk_cell S3.out 3).trans rfl; obtain ⟨hcG, hfG⟩ := box_cell HG.out) | (go_at_call 5; refine (inst_Is.calls _ _ _ _ _ _ _ _ _ _ _ _ _ A1.out (HT.out _ (below_alloc (Below.refl _ _) _))).mono ?_; rintro e w1 ⟨rfl, hb1⟩; have bk1 : w1.heap[w.heap.size]? = some (.cells #[.int .i64 a0_0, .int .i64 a0_1, .int .i64 a0_2, .int .i64 a0_3, .int .i64 a0_4, .int .i64 a0_5, .int .u64 a0_6, .int .i64 a0_7, .int .i64 a0_8, .int .i64 a0_9] 24 (0, 0)) := (hb1.block w.heap.size (lt_alloc_ w _)).trans (heap_last_ w _); have hcA := (blk_cell bk1 0).trans rfl; have BK := Aside0.mk bk1; have HB := Aside0.mk (below_step (below_alloc (Below.refl _ _) _) hb1); clear hb1 bk1) | (go_at_call 4; refine (inst_Shape.calls _ _ _ A2.out).mono ?_; rintro e w2 ⟨rfl, hb2⟩; have n1_ := Aside0.mk (blk_below BK.out hb2); have n2_ := Aside0.mk (below_step HB.out hb2); clear BK HB hcA hb2; have BK := n1_; have HB := n2_; clear n1_ n2_) | (go_at_call 12; refine (inst_shapeOf.calls _ _ _ _ _ _ _ _ _ _ _ _ _ _ A3.out).mono ?_; rintro e w3 ⟨rfl, hb3⟩; have n1_ := Aside0.mk (blk_below BK.out hb3); have n2_ := Aside0.mk (below_step HB.out hb3); clear BK HB hb3; have BK := n1_; have HB := n2_; clear n1_ n2_; have hq2 := fun o o' => (blk_cell (blk_alloc (blk_alloc BK.out o) o') 2).trans rfl) | (go_at_call 19; refine (inst_keeps.calls _ _ _ _ A4.out).mono ?_; rintro e W1 ⟨rfl, b1⟩; have n1_ := Aside0.mk (blk_below BK.out b1); have n2_ := Aside0.mk (below_step HB.out b1); have n3_ := Aside0.mk (blk_below S3.out b1); have n4_ := Aside0.mk (Nat.le_trans HS.out b1.size); have n6_ := Aside0.mk (blk_below HG.out b1); have n7_ := Aside0.mk (own_move HO.out fun k hk => b1.block k (own_lt HO.out k hk)); clear BK HB S3 HG HO HS b1 hcB0 hcB1 hcB2 hcB3 hcB4 hcS0 hcS1 hcS2 hcS3 hcG hfG; have BK := n1_; have HB := n2_; have S3 := n3_; have HS := n4_; have HG := n6_; have HO := n7_; clear n1_ n2_ n3_ n4_ n6_ n7_; have hcB0 := (blk_cell BK.out 0).trans rfl; have hcB1 := (blk_cell BK.out 1).trans rfl; have hcB2 := (blk_cell BK.out 2).trans rfl; have hcB3 := (blk_cell BK.out 3).trans rfl; have hcB4 := (blk_cell BK.out 4).trans rfl; have hcS0 := (blk_cell S3.out 0).trans rfl; have hcS1 := (blk_cell S3.out 1).trans rfl; have hcS2 := (blk_cell S3.out 2).trans rfl; have hcS3 := (blk_cell S3.out 3).trans rfl; obtain ⟨hcG, hfG⟩ := box_cell HG.out) | (go_at_call 20; refine (reads_sort HO.out (Nat.le_trans HL.out (by decide))).mono ?_; rintro e W1 ⟨rfl, o1, b1⟩; have n2_ := Aside0.mk (HB.out.trans (b1.mono (by have := HW.out; omega))); have n6_ := Aside0.mk ((b1.block (w3.heap.size + 1) (by omega)).trans HG.out); have n7_ := Aside0.mk o1; clear BK HB S3 HG HO HS b1 o1 hcB0 hcB1 hcB2 hcB3 hcB4 hcS0 hcS1 hcS2 hcS3 hcG hfG; have HB := n2_; have HG := n6_; have HO := n7_; clear n2_ n6_ n7_; obtain ⟨hcG, hfG⟩ := box_cell HG.out) | (go_at_call 21; refine (reads_compact HO.out (by have := HL.out; simp; omega)).mono ?_; rintro e W1 ⟨v9, rfl, o1, b1⟩; have n2_ := Aside0.mk (HB.out.trans (b1.mono (by have := HW.out; omega))); have n7_ := Aside0.mk o1; clear HB HG HO b1 o1 hcG hfG; have HB := n2_; have HO := n7_; clear n2_ n7_))
    have n1_ := Aside0.mk (blk_drew BK.out); have n2_ := Aside0.mk (below_drew1 HB.out); have n3_ := Aside0.mk (blk_drew S3.out); have n4_ := Aside0.mk (show w3.heap.size + 1 + 1 ≤ W1.drew.heap.size from HS.out); have n6_ := Aside0.mk (blk_drew HG.out); have n7_ := Aside0.mk (own_move (w1 := W1.drew) HO.out fun k hk => rfl); clear BK HB S3 HG HO HS hcB0 hcB1 hcB2 hcB3 hcB4 hcS0 hcS1 hcS2 hcS3 hcG hfG; have BK := n1_; have HB := n2_; have S3 := n3_; have HS := n4_; have HG := n6_; have HO := n7_; clear n1_ n2_ n3_ n4_ n6_ n7_
    have hS0 : W1.drew.cell? ⟨w.heap.size, 0, none⟩ = some (.int .i64 a0_0) ∧ W1.drew.cell? ⟨w.heap.size, 1, none⟩ = some (.int .i64 a0_1) := ⟨(blk_cell BK.out 0).trans rfl, (blk_cell BK.out 1).trans rfl⟩
    cases kp
    · go_region_held3 (fun w' => w'.cell? ⟨w.heap.size, 0, none⟩ = some (.int .i64 a0_0) ∧ w'.cell? ⟨w.heap.size, 1, none⟩ = some (.int .i64 a0_1)) (exact ⟨(blk_cell BK.out 0).trans rfl, (blk_cell BK.out 1).trans rfl⟩) (first | (go_at_call 19; refine (inst_keeps.calls _ _ _ _ A4.out).mono ?_; rintro e W2 ⟨rfl, b1⟩; have n1_ := Aside0.mk (blk_below BK.out b1); have n2_ := Aside0.mk (below_step HB.out b1); have n3_ := Aside0.mk (blk_below S3.out b1); have n4_ := Aside0.mk (Nat.le_trans HS.out b1.size); have n6_ := Aside0.mk (blk_below HG.out b1); have n7_ := Aside0.mk (own_move HO.out fun k hk => b1.block k (own_lt HO.out k hk)); clear BK HB S3 HG HO HS b1; have BK := n1_; have HB := n2_; have S3 := n3_; have HS := n4_; have HG := n6_; have HO := n7_; clear n1_ n2_ n3_ n4_ n6_ n7_) | (go_at_call 18; refine (reads_putCalls _ _ _ _ _ _ _ HG.out HO.out (Nat.le_trans HL.out (by decide)) HS.out).mono ?_; rintro e W3 ⟨rfl, v1, g1, o1, b1⟩; have n1_ := Aside0.mk ((b1.block w.heap.size (by have := HW.out; omega)).trans BK.out); have n2_ := Aside0.mk (HB.out.trans (b1.mono (by have := HW.out; omega))); have n3_ := Aside0.mk ((b1.block w3.heap.size (by omega)).trans S3.out); have n4_ := Aside0.mk (Nat.le_trans HS.out b1.size); have n5_ := Aside0.mk (reads_own_le o1 HL.out); have n6_ := Aside0.mk g1; have n7_ := Aside0.mk o1; clear BK HB S3 HG HO HS HL g1 o1 b1; have BK := n1_; have HB := n2_; have S3 := n3_; have HS := n4_; have HL := n5_; have HG := n6_; have HO := n7_; clear n1_ n2_ n3_ n4_ n5_ n6_ n7_))
      have hcB0 := (blk_cell BK.out 0).trans rfl; have hcB1 := (blk_cell BK.out 1).trans rfl; have hcB2 := (blk_cell BK.out 2).trans rfl; have hcB3 := (blk_cell BK.out 3).trans rfl; have hcB4 := (blk_cell BK.out 4).trans rfl; have hcS0 := (blk_cell S3.out 0).trans rfl; have hcS1 := (blk_cell S3.out 1).trans rfl; have hcS2 := (blk_cell S3.out 2).trans rfl; have hcS3 := (blk_cell S3.out 3).trans rfl; obtain ⟨hcG, hfG⟩ := box_cell HG.out
      go_wp2_with (first | (go_at_call 18; refine (reads_putCalls _ _ _ _ _ _ _ HG.out HO.out (Nat.le_trans HL.out (by decide)) HS.out).mono ?_; rintro e W1 ⟨rfl, v1, g1, o1, b1⟩; have n1_ := Aside0.mk ((b1.block w.heap.size (by have := HW.out; omega)).trans BK.out); have n2_ := Aside0.mk (HB.out.trans (b1.mono (by have := HW.out; omega))); have n3_ := Aside0.mk ((b1.block w3.heap.size (by omega)).trans S3.out); have n4_ := Aside0.mk (Nat.le_trans HS.out b1.size); have n5_ := Aside0.mk (reads_own_le o1 HL.out); have n6_ := Aside0.mk g1; have n7_ := Aside0.mk o1; clear BK HB S3 HG HO HS HL g1 o1 b1 hcB0 hcB1 hcB2 hcB3 hcB4 hcS0 hcS1 hcS2 hcS3 hcG hfG; have BK := n1_; have HB := n2_; have S3 := n3_; have HS := n4_; have HL := n5_; have HG := n6_; have HO := n7_; clear n1_ n2_ n3_ n4_ n5_ n6_ n7_; have hcB0 := (blk_cell BK.out 0).trans rfl; have hcB1 := (blk_cell BK.out 1).trans rfl; have hcB2 := (blk_cell BK.out 2).trans rfl; have hcB3 := (blk_cell BK.out 3).trans rfl; have hcB4 := (blk_cell BK.out 4).trans rfl; have hcS0 := (blk_cell S3.out 0).trans rfl; have hcS1 := (blk_cell S3.out 1).trans rfl; have hcS2 := (blk_cell S3.out 2).trans rfl; have hcS3 := (blk_cell S3.out 3).trans rfl; obtain ⟨hcG, hfG⟩ := box_cell HG.out) | (go_at_call 20; refine (reads_sort HO.out (Nat.le_trans HL.out (by decide))).mono ?_; rintro e W1 ⟨rfl, o1, b1⟩; have n2_ := Aside0.mk (HB.out.trans (b1.mono (by have := HW.out; omega))); have n6_ := Aside0.mk ((b1.block (w3.heap.size + 1) (by omega)).trans HG.out); have n7_ := Aside0.mk o1; clear BK HB S3 HG HO HS b1 o1 hcB0 hcB1 hcB2 hcB3 hcB4 hcS0 hcS1 hcS2 hcS3 hcG hfG; have HB := n2_; have HG := n6_; have HO := n7_; clear n2_ n6_ n7_; obtain ⟨hcG, hfG⟩ := box_cell HG.out) | (go_at_call 21; refine (reads_compact HO.out (by have := HL.out; simp; omega)).mono ?_; rintro e W1 ⟨v9, rfl, o1, b1⟩; have n2_ := Aside0.mk (HB.out.trans (b1.mono (by have := HW.out; omega))); have n7_ := Aside0.mk o1; clear HB HG HO b1 o1 hcG hfG; have HB := n2_; have HO := n7_; clear n2_ n7_))
      go_ret
      have ee := A5.out
      have oo := HO.out
      have hw := HW.out
      rw [← ee]
      exact ⟨_, rfl, own_R (own_down oo (by omega)), HB.out⟩
    · clear hS0
      refine start_ (n := 12) (S := (fun w' => w'.cell? ⟨w.heap.size, 0, none⟩ = some (.int .i64 a0_0) ∧ w'.cell? ⟨w.heap.size, 1, none⟩ = some (.int .i64 a0_1))) (ds := []) #[false, false, false, false, false, false, false, false, false, false, false, false] (by kernel_rfl) rfl rfl ⟨(blk_cell BK.out 0).trans rfl, (blk_cell BK.out 1).trans rfl⟩ (fun hHeld => ?_)
      generalize W1.drew = W1 at BK HB S3 HS HG HO hHeld ⊢
      refine pure_ (i := 0) (N := some 34) (v := ?_) (a' := ?_) #[true, false, false, false, false, false, false, false, false, false, false, false] rfl rfl (by kernel_rfl) (fun _ _ _ h => h) (Or.inl ⟨by rfl, ?_⟩) ?_ ?_
      rotate_left
      · intro w'
        go_simp
        with_reducible rfl
      rotate_left
      · simp only [Act.put, List.setIfInBounds_toArray, List.set_cons_zero, List.set_cons_succ, i64_w, i32_w]
        rfl
      refine pure_ (i := 1) (N := some 35) (v := ?_) (a' := ?_) #[true, true, false, false, false, false, false, false, false, false, false, false] rfl rfl (by kernel_rfl) (fun _ _ _ h => h) (Or.inl ⟨by rfl, ?_⟩) ?_ ?_
      rotate_left
      · intro w'
        go_simp
        with_reducible rfl
      rotate_left
      · simp only [Act.put, List.setIfInBounds_toArray, List.set_cons_zero, List.set_cons_succ, i64_w, i32_w]
        rfl
      refine pure_ (i := 9) (N := some 43) (v := ?_) (a' := ?_) #[true, true, false, false, false, false, false, false, false, true, false, false] rfl rfl (by kernel_rfl) (fun _ _ _ h => h) (Or.inl ⟨by rfl, ?_⟩) ?_ ?_
      rotate_left
      · intro w'
        go_simp
        with_reducible rfl
      rotate_left
      · simp only [Act.put, List.setIfInBounds_toArray, List.set_cons_zero, List.set_cons_succ, i64_w, i32_w]
        rfl
      refine take_ (i := 2) (N := some 36) (v := ?_) (a' := ?_) #[true, true, true, false, false, false, false, false, false, true, false, false] rfl rfl (by kernel_rfl) (fun _ _ _ h => h) (Or.inl ⟨by rfl, ?_⟩) hHeld ?_ ?_
      rotate_left
      · rintro w' ⟨s0, s1⟩
        go_simp
        with_reducible rfl
      rotate_left
      · simp only [Act.put, List.setIfInBounds_toArray, List.set_cons_zero, List.set_cons_succ, i64_w, i32_w]
        rfl
      refine take_ (i := 10) (N := some 44) (v := ?_) (a' := ?_) #[true, true, true, false, false, false, false, false, false, true, true, false] rfl rfl (by kernel_rfl) (fun _ _ _ h => h) (Or.inl ⟨by rfl, ?_⟩) hHeld ?_ ?_
      rotate_left
      · rintro w' ⟨s0, s1⟩
        go_simp
        with_reducible rfl
      rotate_left
      · simp only [Act.put, List.setIfInBounds_toArray, List.set_cons_zero, List.set_cons_succ, i64_w, i32_w]
        rfl
      refine one_ (i := 3) (N := some 37) #[true, true, true, true, false, false, false, false, false, true, true, false] rfl rfl (by kernel_rfl) (by decide) (fun K hK => ?_)
      refine call_ 19 #[.int .i64 a0_0] (by rfl) rfl (by unfold execOp; go_simp) ?_
      refine (inst_keeps.calls _ _ _ _ A4.out).mono ?_
      rintro e W2 ⟨rfl, b1⟩
      have n1_ := Aside0.mk (blk_below BK.out b1)
      have n2_ := Aside0.mk (below_step HB.out b1)
      have n3_ := Aside0.mk (blk_below S3.out b1)
      have n4_ := Aside0.mk (Nat.le_trans HS.out b1.size)
      have n6_ := Aside0.mk (blk_below HG.out b1)
      have n7_ := Aside0.mk (own_move HO.out fun k hk => b1.block k (own_lt HO.out k hk))
      clear BK HB S3 HG HO HS b1
      have BK := n1_
      have HB := n2_
      have S3 := n3_
      have HS := n4_
      have HG := n6_
      have HO := n7_
      clear n1_ n2_ n3_ n4_ n6_ n7_
      refine ⟨_, rfl, ?_⟩
      refine hK.out _ _ ⟨(blk_cell BK.out 0).trans rfl, (blk_cell BK.out 1).trans rfl⟩ (fun hHeld => ?_)
      clear hK K
      refine norm_ (a' := ?_) ?_ ?_
      rotate_left
      · show Act.put _ (some 37) _ = _
        simp only [Act.put, List.setIfInBounds_toArray, List.set_cons_zero, List.set_cons_succ, i64_w, i32_w]
        rfl
      refine pure_ (i := 4) (N := some 38) (v := ?_) (a' := ?_) #[true, true, true, true, true, false, false, false, false, true, true, false] rfl rfl (by kernel_rfl) (fun _ _ _ h => h) (Or.inl ⟨by rfl, ?_⟩) ?_ ?_
      rotate_left
      · intro w'
        go_simp
        with_reducible rfl
      rotate_left
      · simp only [Act.put, List.setIfInBounds_toArray, List.set_cons_zero, List.set_cons_succ, i64_w, i32_w]
        rfl
      refine pure_ (i := 5) (N := some 39) (v := undef) (a' := ?_) #[true, true, true, true, true, true, false, false, false, true, true, false] rfl rfl (by kernel_rfl) (fun _ _ _ h => h) (Or.inr ⟨by rfl, rfl⟩) ?_ ?_
      rotate_left
      · simp only [Act.put, List.setIfInBounds_toArray, List.set_cons_zero, List.set_cons_succ, i64_w, i32_w]
        rfl
      refine pure_ (i := 6) (N := some 40) (v := undef) (a' := ?_) #[true, true, true, true, true, true, true, false, false, true, true, false] rfl rfl (by kernel_rfl) (fun _ _ _ h => h) (Or.inr ⟨by rfl, rfl⟩) ?_ ?_
      rotate_left
      · simp only [Act.put, List.setIfInBounds_toArray, List.set_cons_zero, List.set_cons_succ, i64_w, i32_w]
        rfl
      refine pure_ (i := 7) (N := some 41) (v := undef) (a' := ?_) #[true, true, true, true, true, true, true, true, false, true, true, false] rfl rfl (by kernel_rfl) (fun _ _ _ h => h) (Or.inr ⟨by rfl, rfl⟩) ?_ ?_
      rotate_left
      · simp only [Act.put, List.setIfInBounds_toArray, List.set_cons_zero, List.set_cons_succ, i64_w, i32_w]
        rfl
      refine pure_ (i := 8) (N := some 42) (v := ?_) (a' := ?_) #[true, true, true, true, true, true, true, true, true, true, true, false] rfl rfl (by kernel_rfl) (fun _ _ _ h => h) (Or.inl ⟨by rfl, ?_⟩) ?_ ?_
      rotate_left
      · intro w'
        go_simp
        with_reducible rfl
      rotate_left
      · simp only [Act.put, List.setIfInBounds_toArray, List.set_cons_zero, List.set_cons_succ, i64_w, i32_w]
        rfl
      refine one_ (i := 11) (N := some 45) #[true, true, true, true, true, true, true, true, true, true, true, true] rfl rfl (by kernel_rfl) (by decide) (fun K hK => ?_)
      refine call_ 18 #[.bool true, .int .i64 a0_1, .bool false, .pointer (some ⟨w3.heap.size + 1, 0, none⟩)] (by rfl) rfl (by unfold execOp; go_simp) ?_
      refine (reads_putCalls _ _ _ _ _ _ _ HG.out HO.out (Nat.le_trans HL.out (by decide)) HS.out).mono ?_
      rintro e W3 ⟨rfl, v1, g1, o1, b1⟩
      have n1_ := Aside0.mk ((b1.block w.heap.size (by have := HW.out; omega)).trans BK.out)
      have n2_ := Aside0.mk (HB.out.trans (b1.mono (by have := HW.out; omega)))
      have n3_ := Aside0.mk ((b1.block w3.heap.size (by omega)).trans S3.out)
      have n4_ := Aside0.mk (Nat.le_trans HS.out b1.size)
      have n5_ := Aside0.mk (reads_own_le o1 HL.out)
      have n6_ := Aside0.mk g1
      have n7_ := Aside0.mk o1
      clear BK HB S3 HG HO HS HL g1 o1 b1
      have BK := n1_
      have HB := n2_
      have S3 := n3_
      have HS := n4_
      have HL := n5_
      have HG := n6_
      have HO := n7_
      clear n1_ n2_ n3_ n4_ n5_ n6_ n7_
      refine ⟨_, rfl, ?_⟩
      refine hK.out _ _ ⟨(blk_cell BK.out 0).trans rfl, (blk_cell BK.out 1).trans rfl⟩ (fun hHeld => ?_)
      clear hK K
      refine norm_ (a' := ?_) ?_ ?_
      rotate_left
      · show Act.put _ (some 45) _ = _
        simp only [Act.put, List.setIfInBounds_toArray, List.set_cons_zero, List.set_cons_succ, i64_w, i32_w]
        rfl
      refine done_ (by kernel_rfl) ?_
      have hcB0 := (blk_cell BK.out 0).trans rfl; have hcB1 := (blk_cell BK.out 1).trans rfl; have hcB2 := (blk_cell BK.out 2).trans rfl; have hcB3 := (blk_cell BK.out 3).trans rfl; have hcB4 := (blk_cell BK.out 4).trans rfl; have hcS0 := (blk_cell S3.out 0).trans rfl; have hcS1 := (blk_cell S3.out 1).trans rfl; have hcS2 := (blk_cell S3.out 2).trans rfl; have hcS3 := (blk_cell S3.out 3).trans rfl; obtain ⟨hcG, hfG⟩ := box_cell HG.out
      go_wp2_with (first | (go_at_call 18; refine (reads_putCalls _ _ _ _ _ _ _ HG.out HO.out (Nat.le_trans HL.out (by decide)) HS.out).mono ?_; rintro e W1 ⟨rfl, v1, g1, o1, b1⟩; have n1_ := Aside0.mk ((b1.block w.heap.size (by have := HW.out; omega)).trans BK.out); have n2_ := Aside0.mk (HB.out.trans (b1.mono (by have := HW.out; omega))); have n3_ := Aside0.mk ((b1.block w3.heap.size (by omega)).trans S3.out); have n4_ := Aside0.mk (Nat.le_trans HS.out b1.size); have n5_ := Aside0.mk (reads_own_le o1 HL.out); have n6_ := Aside0.mk g1; have n7_ := Aside0.mk o1; clear BK HB S3 HG HO HS HL g1 o1 b1 hcB0 hcB1 hcB2 hcB3 hcB4 hcS0 hcS1 hcS2 hcS3 hcG hfG; have BK := n1_; have HB := n2_; have S3 := n3_; have HS := n4_; have HL := n5_; have HG := n6_; have HO := n7_; clear n1_ n2_ n3_ n4_ n5_ n6_ n7_; have hcB0 := (blk_cell BK.out 0).trans rfl; have hcB1 := (blk_cell BK.out 1).trans rfl; have hcB2 := (blk_cell BK.out 2).trans rfl; have hcB3 := (blk_cell BK.out 3).trans rfl; have hcB4 := (blk_cell BK.out 4).trans rfl; have hcS0 := (blk_cell S3.out 0).trans rfl; have hcS1 := (blk_cell S3.out 1).trans rfl; have hcS2 := (blk_cell S3.out 2).trans rfl; have hcS3 := (blk_cell S3.out 3).trans rfl; obtain ⟨hcG, hfG⟩ := box_cell HG.out) | (go_at_call 20; refine (reads_sort HO.out (Nat.le_trans HL.out (by decide))).mono ?_; rintro e W1 ⟨rfl, o1, b1⟩; have n2_ := Aside0.mk (HB.out.trans (b1.mono (by have := HW.out; omega))); have n6_ := Aside0.mk ((b1.block (w3.heap.size + 1) (by omega)).trans HG.out); have n7_ := Aside0.mk o1; clear BK HB S3 HG HO HS b1 o1 hcB0 hcB1 hcB2 hcB3 hcB4 hcS0 hcS1 hcS2 hcS3 hcG hfG; have HB := n2_; have HG := n6_; have HO := n7_; clear n2_ n6_ n7_; obtain ⟨hcG, hfG⟩ := box_cell HG.out) | (go_at_call 21; refine (reads_compact HO.out (by have := HL.out; simp; omega)).mono ?_; rintro e W1 ⟨v9, rfl, o1, b1⟩; have n2_ := Aside0.mk (HB.out.trans (b1.mono (by have := HW.out; omega))); have n7_ := Aside0.mk o1; clear HB HG HO b1 o1 hcG hfG; have HB := n2_; have HO := n7_; clear n2_ n7_))
      go_ret
      have ee := A5.out
      have oo := HO.out
      have hw := HW.out
      rw [← ee]
      exact ⟨_, rfl, own_R (own_down oo (by omega)), HB.out⟩
  · rw [if_neg c] at h
    have A5 := Aside0.mk (Option.some.inj h)
    obtain rfl : t = false := by simpa using c
    clear h c
    go_enter Tryd.func8, Tryd.ntmps8
    go_wp2_with (first | (go_at_call 5; refine (inst_Is.calls _ _ _ _ _ _ _ _ _ _ _ _ _ A1.out (HT.out _ (below_alloc (Below.refl _ _) _))).mono ?_; rintro e w1 ⟨rfl, hb1⟩; have HB := Aside0.mk (below_step (below_alloc (Below.refl _ _) _) hb1); clear hb1))
    go_ret
    rw [← A5.out]
    exact ⟨_, rfl, own_R (own_nil_ _ _ _), HB.out⟩
end Go.Proofs.YtblnfngigdipcaaDoor.P
