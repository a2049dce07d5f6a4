/- Written for this claim by a program of this session: what the claim uses of lemmas and proved contracts of Go functions. -/
import Derived.Test.YtbklmlbmbnnjkaaDoorZDoesShelf
import Derived.Test.YtbklmlbmbnnjkaaDoorZDoesRx0
import Derived.Test.YtbklmlbmbnnjkaaDoorZDoesRx5
import Derived.Test.YtbklmlbmbnnjkaaDoorZDoesRx6
import Derived.Test.YtbklmlbmbnnjkaaDoorZDoesRx7
namespace Go.Proofs.YtbklmlbmbnnjkaaDoor.R
open Go.RowKit Go.Proofs.YtbklmlbmbnnjkaaDoorW.PrintWords Go.Proofs.YtbklmlbmbnnjkaaDoorW.PrintLast Go.Proofs.YtbklmlbmbnnjkaaDoorW.PrintMore
attribute [local go_sem] max2_int min2_int max_two min_two max_three min_three max_four min_four   -- for this text's walks alone
set_option linter.unusedVariables false
set_option linter.unusedSimpArgs false
def cleatref04_Same.l0 : Nat → List Int → List Int → Int → Option (Bool)
 | 0, _, _, _ => none
 | k + 1, x0, x1, x5 => if x5 < (x0.length : Int) then (if 0 ≤ x5 then (if x5 < (x1.length : Int) then (if (rd x0 x5) = (rd x1 x5) then (cleatref04_Same.l0 k x0 x1 (wrap64 (x5 + 1))) else (some false)) else (none)) else (none)) else (some true)
def cleatref04_Same.f (k : Nat) (l0 : List Int) (l1 : List Int) : Option (Bool) := if (l0.length : Int) = (l1.length : Int) then (cleatref04_Same.l0 k l0 l1 0) else (some false)
set_option maxHeartbeats 8000000 in
set_option maxRecDepth 100000 in
theorem cleatref04_Same.calls (k : Nat) (A0 : Option Addr) (c0 : Nat) (l0 : List Int) (A1 : Option Addr) (c1 : Nat) (l1 : List Int) (r : Bool) (w : World) (hr0 : Kd.C (Kd.int .i64) w A0 l0.length l0) (hc0 : l0.length ≤ c0) (hr1 : Kd.C (Kd.int .i64) w A1 l1.length l1) (hc1 : l1.length ≤ c1) (h : cleatref04_Same.f k l0 l1 = some r) :
    Calls Tryd.prog 32 #[.slice A0 l0.length c0, .slice A1 l1.length c1] w fun e w' => e = .returned (.bool r) ∧ Drawn0 w w' := by
 have HR0 := Aside0.mk hr0
 have HC0 := Aside0.mk hc0
 clear hr0 hc0
 have HR1 := Aside0.mk hr1
 have HC1 := Aside0.mk hc1
 clear hr1 hc1
 have H : (if (l0.length : Int) = (l1.length : Int) then (cleatref04_Same.l0 k l0 l1 0) else (some false)) = some r := h
 clear h
 by_cases c3 : (l0.length : Int) = (l1.length : Int)
 ·
  rw [if_pos c3] at H
  have c3b0 : ((l0.length : Int) == (l1.length : Int)) = true := beq_iff_eq.mpr c3
  have c3b1 : ((l0.length : Int) != (l1.length : Int)) = false := bne_eq_false_iff_eq.mpr c3
  have c3b2 : (l0.length == l1.length) = true := by first | simpa using c3 | (simp at c3 ⊢; omega)
  clear c3
  have H' := Aside0.mk H
  clear H
  go_enter Tryd.func32, Tryd.ntmps32
  go_wp2
  repeat (go_quiet (fail); try go_wp2)
  go_loopg [5] k (fun kq v5 w' => ∃ (x5_1 : Int), v5 = .int .i64 x5_1 ∧ Aside0 (cleatref04_Same.l0 kq l0 l1 x5_1 = some r) ∧ Aside0 (kq ≤ k) ∧ Drawn0 w w')
  case atStart => exact ⟨(0), (by first | rfl | (simp; done) | (simp [*]; done)), H', ⟨Nat.le_refl _⟩, by repeat (first | exact Drawn0.refl _ | apply Drawn0.step)⟩
  case round =>
   clear H'
   try clear c1
   try clear p2
   try clear c3
   try clear c3b0
   try clear c3b1
   try clear c3b2
   obtain ⟨x5_1, rfl, HA, HK1, ⟨m1, rfl⟩⟩ := hrel
   cases gk with
   | zero => exact absurd HA.out (by simp [cleatref04_Same.l0])
   | succ k1 =>
    have H := HA.out
    clear HA
    simp only [cleatref04_Same.l0] at H
    by_cases c4 : x5_1 < (l0.length : Int)
    ·
     rw [if_pos c4] at H
     have c4b0 : decide (x5_1 < (l0.length : Int)) = true := decide_eq_true c4
     clear c4
     by_cases c5 : 0 ≤ x5_1
     ·
      rw [if_pos c5] at H
      have c5b0 : decide (0 ≤ x5_1) = true := decide_eq_true c5
      clear c5
      by_cases c6 : x5_1 < (l1.length : Int)
      ·
       rw [if_pos c6] at H
       have c6b0 : decide (x5_1 < (l1.length : Int)) = true := decide_eq_true c6
       clear c6
       by_cases c7 : (rd l0 x5_1) = (rd l1 x5_1)
       ·
        rw [if_pos c7] at H
        have c7b0 : ((rd l0 x5_1) == (rd l1 x5_1)) = true := beq_iff_eq.mpr c7
        have c7b1 : ((rd l0 x5_1) != (rd l1 x5_1)) = false := bne_eq_false_iff_eq.mpr c7
        clear c7
        have H' := Aside0.mk H
        clear H
        have p223 : 0 ≤ (x5_1 : Int) := of_decide_eq_true (by first | (with_reducible assumption) | assumption)
        have q223 : x5_1 < (l0.length : Int) := of_decide_eq_true (by first | (with_reducible assumption) | assumption)
        obtain ⟨ad223, e223, hx223_0⟩ := Kd.at_int HR0.out x5_1 p223 q223
        cases e223
        replace p223 := eq_true p223
        replace q223 := eq_true q223
        have p224 : 0 ≤ (x5_1 : Int) := of_decide_eq_true (by first | (with_reducible assumption) | assumption)
        have q224 : x5_1 < (l1.length : Int) := of_decide_eq_true (by first | (with_reducible assumption) | assumption)
        obtain ⟨ad224, e224, hx224_0⟩ := Kd.at_int HR1.out x5_1 p224 q224
        cases e224
        replace p224 := eq_true p224
        replace q224 := eq_true q224
        go_wp2
        repeat (go_quiet (fail); try go_wp2)
        go_roundg k1
        case measure => have := HK1.out; omega
        case rel => exact ⟨(wrap64 (x5_1 + 1)), (by first | rfl | (simp; done) | (simp [*]; done)), H', ⟨by have := HK1.out; omega⟩, by repeat (first | exact Drawn0.refl _ | apply Drawn0.step)⟩
       ·
        rw [if_neg c7] at H
        have c7b0 : ((rd l0 x5_1) == (rd l1 x5_1)) = false := beq_eq_false_iff_ne.mpr c7
        have c7b1 : ((rd l0 x5_1) != (rd l1 x5_1)) = true := bne_iff_ne.mpr c7
        obtain rfl := Option.some.inj H
        have p223 : 0 ≤ (x5_1 : Int) := of_decide_eq_true (by first | (with_reducible assumption) | assumption)
        have q223 : x5_1 < (l0.length : Int) := of_decide_eq_true (by first | (with_reducible assumption) | assumption)
        obtain ⟨ad223, e223, hx223_0⟩ := Kd.at_int HR0.out x5_1 p223 q223
        cases e223
        replace p223 := eq_true p223
        replace q223 := eq_true q223
        have p224 : 0 ≤ (x5_1 : Int) := of_decide_eq_true (by first | (with_reducible assumption) | assumption)
        have q224 : x5_1 < (l1.length : Int) := of_decide_eq_true (by first | (with_reducible assumption) | assumption)
        obtain ⟨ad224, e224, hx224_0⟩ := Kd.at_int HR1.out x5_1 p224 q224
        cases e224
        replace p224 := eq_true p224
        replace q224 := eq_true q224
        go_wp2
        repeat (go_quiet (fail); try go_wp2)
        go_ret
        exact ⟨by first | rfl | (simp; done) | (simp [*]; done), by repeat (first | exact Drawn0.refl _ | apply Drawn0.step)⟩
      ·
       rw [if_neg c6] at H
       exact absurd H (by simp)
     ·
      rw [if_neg c5] at H
      exact absurd H (by simp)
    ·
     rw [if_neg c4] at H
     have c4b0 : decide (x5_1 < (l0.length : Int)) = false := decide_eq_false c4
     clear c4
     obtain rfl := Option.some.inj H
     go_wp2
     repeat (go_quiet (fail); try go_wp2)
     go_ret
     exact ⟨by first | rfl | (simp; done) | (simp [*]; done), by repeat (first | exact Drawn0.refl _ | apply Drawn0.step)⟩
 ·
  rw [if_neg c3] at H
  have c3b0 : ((l0.length : Int) == (l1.length : Int)) = false := beq_eq_false_iff_ne.mpr c3
  have c3b1 : ((l0.length : Int) != (l1.length : Int)) = true := bne_iff_ne.mpr c3
  have c3b2 : (l0.length == l1.length) = false := by first | simpa using c3 | (simp at c3 ⊢; omega)
  obtain rfl := Option.some.inj H
  go_enter Tryd.func32, Tryd.ntmps32
  go_wp2
  repeat (go_quiet (fail); try go_wp2)
  go_ret
  exact ⟨by first | rfl | (simp; done) | (simp [*]; done), by repeat (first | exact Drawn0.refl _ | apply Drawn0.step)⟩

-- NOT PRINTED: function 95 (cmp_isNaN_int)

-- NOT PRINTED: function 86 (cmp_Less_int)

-- NOT PRINTED: function 80 (slices_insertionSortOrdered_int)

-- NOT PRINTED: function 90 (slices_siftDownOrdered_int)

-- NOT PRINTED: function 81 (slices_heapSortOrdered_int)

-- NOT PRINTED: function 89 (bits_Len32)

-- NOT PRINTED: function 77 (bits_Len)

-- NOT PRINTED: function 91 (slices_nextPowerOfTwo)

-- NOT PRINTED: function 92 (slices_xorshift_Next)

-- NOT PRINTED: function 82 (slices_breakPatternsOrdered_int)

-- NOT PRINTED: function 96 (slices_order2Ordered_int)

-- NOT PRINTED: function 94 (slices_medianOrdered_int)

-- NOT PRINTED: function 93 (slices_medianAdjacentOrdered_int)

-- NOT PRINTED: function 83 (slices_choosePivotOrdered_int)

-- NOT PRINTED: function 84 (slices_reverseRangeOrdered_int)

-- NOT PRINTED: function 85 (slices_partialInsertionSortOrdered_int)

-- NOT PRINTED: function 87 (slices_partitionEqualOrdered_int)

-- NOT PRINTED: function 88 (slices_partitionOrdered_int)

-- NOT PRINTED: function 76 (slices_pdqsortOrdered_int)

-- NOT PRINTED: function 65 (slices_Sort_int_int)

-- NOT PRINTED: function 66 (slices_Compact_int_int)
-- IMPORT Derived.Test.YtbklmlbmbnnjkaaDoorShelf
/-- What the closure of Reads puts. -/
def reads_put (has : Bool) (x : Int) (sp : Bool) (xs : List Int) : List Int := if has = true ∧ (x < 31 ∨ sp = true) then xs ++ [x] else xs
theorem reads_put_len (has : Bool) (x : Int) (sp : Bool) (xs : List Int) : (reads_put has x sp xs).length ≤ xs.length + 1 := by unfold reads_put; split <;> simp
theorem box_cell {W : World} {G : Nat} {v : Value} {t : TypeId} (h : W.heap[G]? = some (.cells #[v] t (0, 0))) : W.cell? ⟨G, 0, none⟩ = some v ∧ W.frozen? ⟨G, 0, none⟩ = false := by
  constructor
  · simp [World.cell?, h]
  · simp [World.frozen?, h]
theorem box_set {W : World} {G : Nat} {v u : Value} {t : TypeId} (h : W.heap[G]? = some (.cells #[v] t (0, 0))) : (W.setCell ⟨G, 0, none⟩ u).heap[G]? = some (.cells #[u] t (0, 0)) := by
  simp [World.setCell, Array.getElem?_modify, h]
theorem own_slice {W : World} {base n : Nat} {e : TypeId} {v : Value} {xs : List Value} (h : W.ownsRow base e 1 v n xs) : ∃ A c, v = .slice A n c := by
  rcases h.2 with ⟨rfl, rfl⟩ | ⟨g, cap, cur, rfl, _⟩
  · exact ⟨_, _, rfl⟩
  · exact ⟨_, _, rfl⟩
theorem own_set {W : World} {G n : Nat} {e : TypeId} {v u : Value} {xs : List Value} (h : W.ownsRow (G + 1) e 1 v n xs) : (W.setCell ⟨G, 0, none⟩ u).ownsRow (G + 1) e 1 v n xs :=
  own_move h fun k hk => Below.heap_setCell W _ u k (by have := own_base h k hk; show k ≠ G; omega)
set_option maxHeartbeats 8000000 in
set_option maxRecDepth 100000 in
theorem reads_putCalls (G : Nat) (v : Value) (xs : List Int) (has : Bool) (x : Int) (sp : Bool) (W : World) (hG : W.heap[G]? = some (.cells #[v] 42 (0, 0))) (hO : W.ownsRow (G + 1) 3 1 v xs.length (nums .i64 xs)) (hl : xs.length ≤ 100) (hlt : G + 1 ≤ W.heap.size) :
    Calls Tryd.prog 64 #[.bool has, .int .i64 x, .bool sp, .pointer (some ⟨G, 0, none⟩)] W fun e w' => e = .returned (.tuple #[]) ∧ ∃ v1, w'.heap[G]? = some (.cells #[v1] 42 (0, 0)) ∧
      w'.ownsRow (G + 1) 3 1 v1 (reads_put has x sp xs).length (nums .i64 (reads_put has x sp xs)) ∧ Below G W w' := by
  obtain ⟨hc, hf⟩ := box_cell hG
  obtain ⟨A, c, rfl⟩ := own_slice hO
  by_cases hp : has = true ∧ (x < 31 ∨ sp = true)
  · have e : reads_put has x sp xs = xs ++ [x] := if_pos hp
    rw [e]
    have HO := Aside0.mk hO
    have HG := Aside0.mk hG
    have HL := Aside0.mk hl
    have HT := Aside0.mk hlt
    obtain ⟨rfl, hx⟩ := hp
    clear hO hG hl hlt e
    by_cases h31 : x < 31
    · go_enter Tryd.func64, Tryd.ntmps64
      go_wp2_with (first | ((with_reducible refine gate_builtin (b := .append) (xs := #[.tmp 15, .tmp 17]) rfl ?_); at_builtin; refine print_append_num (w0 := W) (G + 1) rfl (.tmp 15) (.tmp 17) 42 3 .i64 8 rfl Tryd.underlying42 info3 (by omega) (.slice A xs.length c) xs x rfl rfl HO.out (Below.refl _ _) HT.out (by have := HL.out; omega) ?_; intro v1 w1 hown hB _ _; obtain ⟨A1, c1, rfl⟩ := own_slice hown; have hG1 := (hB.block G (by omega)).trans HG.out; have HC1 := Aside0.mk (own_set (u := .slice A1 (xs ++ [x]).length c1) hown); have HC2 := Aside0.mk (box_set (u := .slice A1 (xs ++ [x]).length c1) hG1); have HC3 := Aside0.mk hB; obtain ⟨hc1, hf1⟩ := box_cell hG1; clear hG1 hown hB))
      refine bodyPost_end (results_none rfl _ _ _) rfl ?_
      have e1 := HC1.out
      have e2 := HC2.out
      simp only [List.length_append, List.length_singleton] at e1 e2 ⊢
      exact ⟨trivial, _, e2, e1, (HC3.out.mono (Nat.le_succ _)).setCell (Nat.le_refl _) _⟩
    · have hs : sp = true := hx.resolve_left h31
      subst hs
      clear hx
      go_enter Tryd.func64, Tryd.ntmps64
      go_wp2_with (first | ((with_reducible refine gate_builtin (b := .append) (xs := #[.tmp 15, .tmp 17]) rfl ?_); at_builtin; refine print_append_num (w0 := W) (G + 1) rfl (.tmp 15) (.tmp 17) 42 3 .i64 8 rfl Tryd.underlying42 info3 (by omega) (.slice A xs.length c) xs x rfl rfl HO.out (Below.refl _ _) HT.out (by have := HL.out; omega) ?_; intro v1 w1 hown hB _ _; obtain ⟨A1, c1, rfl⟩ := own_slice hown; have hG1 := (hB.block G (by omega)).trans HG.out; have HC1 := Aside0.mk (own_set (u := .slice A1 (xs ++ [x]).length c1) hown); have HC2 := Aside0.mk (box_set (u := .slice A1 (xs ++ [x]).length c1) hG1); have HC3 := Aside0.mk hB; obtain ⟨hc1, hf1⟩ := box_cell hG1; clear hG1 hown hB))
      refine bodyPost_end (results_none rfl _ _ _) rfl ?_
      have e1 := HC1.out
      have e2 := HC2.out
      simp only [List.length_append, List.length_singleton] at e1 e2 ⊢
      exact ⟨trivial, _, e2, e1, (HC3.out.mono (Nat.le_succ _)).setCell (Nat.le_refl _) _⟩
  · have e : reads_put has x sp xs = xs := if_neg hp
    rw [e]
    have HO := Aside0.mk hO
    have HG := Aside0.mk hG
    clear hO hl hlt e
    cases has
    · go_enter Tryd.func64, Tryd.ntmps64
      go_wp2
      refine bodyPost_end (results_none rfl _ _ _) rfl ?_
      exact ⟨rfl, _, HG.out, HO.out, Below.refl _ _⟩
    · have h31 : ¬ x < 31 := fun h => hp ⟨rfl, .inl h⟩
      have hs : sp = false := by cases sp; rfl; exact absurd ⟨rfl, .inr rfl⟩ hp
      subst hs
      clear hp
      go_enter Tryd.func64, Tryd.ntmps64
      go_wp2
      refine bodyPost_end (results_none rfl _ _ _) rfl ?_
      exact ⟨rfl, _, HG.out, HO.out, Below.refl _ _⟩
/-- A row of the call's own, not nil, as the shelf's laws on sorts tell it. -/
theorem own_holds {W : World} {base g n c : Nat} {xs : List Int} (h : W.ownsRow base 3 1 (.slice (some ⟨g, 0, none⟩) n c) n (nums .i64 xs)) : Sort.Holds (Value.int .i64) W g 0 xs.toArray ∧ g < W.heap.size ∧ base ≤ g ∧ xs.length = n ∧ n ≤ c := by
  have hl : xs.length = n := by have := h.1; simp [nums] at this; exact this
  rcases h.2 with ⟨h2, _⟩ | ⟨g', cap, cur, he, hg, hh, hn, hm, hs, ht⟩
  · simp at h2
  · simp at he
    obtain ⟨rfl, rfl⟩ := he
    refine ⟨fun j hj => ?_, (Array.getElem?_eq_some_iff.1 hh).1, hg, hl, hn⟩
    have hj' : j < xs.length := by simpa using hj
    have hcur : cur[j]? = some (.int .i64 xs[j]) := by
      have e := congrArg (·[j]?) ht
      simp only [nums, List.getElem?_map, List.getElem?_eq_getElem hj', Option.map_some] at e
      rw [List.getElem?_take_of_lt (by omega)] at e
      simpa using e
    constructor
    · simp [World.cell?, hh, hcur, hj']
    · simp [World.frozen?, hh]
/-- Behind the shelf's sort (or its like) the row is the call's own still, with the new elements; the blocks ahead of it stay. -/
theorem put_own {W : World} {base g n c q : Nat} {os : Array Obj} {xs ys : List Int} (h : W.ownsRow base 3 1 (.slice (some ⟨g, 0, none⟩) n c) n (nums .i64 xs)) (hy : ys.length = xs.length) :
    (Sort.grow (Sort.putRow (Value.int .i64) (Sort.ahead W q) g 0 ys.toArray) os).ownsRow base 3 1 (.slice (some ⟨g, 0, none⟩) n c) n (nums .i64 ys) ∧ Below g W (Sort.grow (Sort.putRow (Value.int .i64) (Sort.ahead W q) g 0 ys.toArray) os) := by
  have hl : xs.length = n := by have := h.1; simp [nums] at this; exact this
  rcases h.2 with ⟨h2, _⟩ | ⟨g', cap, cur, he, hg, hh, hn, hm, hs, ht⟩
  · simp at h2
  · simp at he
    obtain ⟨rfl, rfl⟩ := he
    have hlt : g < W.heap.size := (Array.getElem?_eq_some_iff.1 hh).1
    have hheap : ∀ k, k < W.heap.size → (Sort.grow (Sort.putRow (Value.int .i64) (Sort.ahead W q) g 0 ys.toArray) os).heap[k]? = if g = k then (W.heap[k]?).map (Sort.onCells (Sort.putCells (Value.int .i64) 0 ys.toArray)) else W.heap[k]? := by
      intro k hk
      rw [Sort.heap_grow_old _ _ (by simpa [Sort.putRow, Sort.mapBlock, Sort.ahead] using hk)]
      simp [Sort.putRow, Sort.mapBlock, Sort.ahead, Array.getElem?_modify]
    refine ⟨⟨by simp [nums]; omega, .inr ⟨g, c, Sort.putCells (Value.int .i64) 0 ys.toArray cur, rfl, hg, ?_, hn, hm, ?_, ?_⟩⟩, ?_⟩
    · rw [hheap g hlt, if_pos rfl, hh]; rfl
    · simp [Sort.putCells, hs]
    · apply List.ext_getElem?
      intro j
      simp only [nums, List.getElem?_map]
      by_cases hj : j < n
      · rw [List.getElem?_take_of_lt (by omega)]
        have hjc : j < cur.size := by omega
        simp [Sort.putCells, List.getElem?_eq_getElem (show j < ys.length by omega), hjc, show j < ys.length by omega]
      · rw [List.getElem?_eq_none (by simp; omega), List.getElem?_eq_none (by omega)]; rfl
    · exact ⟨rfl, rfl, rfl, by simp [Sort.grow, Sort.putRow, Sort.mapBlock, Sort.ahead], fun k hk => by rw [hheap k (by omega), if_neg (by omega)]⟩
/-- The beginning of a row of the call's own. -/
theorem own_cut {W : World} {base g n c : Nat} {ys zs : List Int} (h : W.ownsRow base 3 1 (.slice (some ⟨g, 0, none⟩) n c) n (nums .i64 (ys ++ zs))) : W.ownsRow base 3 1 (.slice (some ⟨g, 0, none⟩) ys.length c) ys.length (nums .i64 ys) := by
  have hl : ys.length + zs.length = n := by have := h.1; simp [nums] at this; exact this
  rcases h.2 with ⟨h2, _⟩ | ⟨g', cap, cur, he, hg, hh, hn, hm, hs, ht⟩
  · simp at h2
  · simp at he
    obtain ⟨rfl, rfl⟩ := he
    refine ⟨by simp [nums], .inr ⟨g, c, cur, rfl, hg, hh, by omega, hm, hs, ?_⟩⟩
    have e := congrArg (List.take ys.length) ht
    rw [List.take_take, Nat.min_eq_left (by omega)] at e
    rw [Nat.mul_one, e]
    simp [nums]
/-- .. as the print tells a row. -/
theorem own_R {W : World} {base : Nat} {v : Value} {xs : List Int} (h : W.ownsRow base 3 1 v xs.length (nums .i64 xs)) : Kd.R (Kd.int .i64) 3 W base (fun _ => True) v xs := ⟨fun _ _ => trivial, nums .i64 _, h, Kd.reps_scalar _⟩
theorem lt_alloc_ (w : World) (o : Obj) : w.heap.size < (w.alloc o).heap.size := by
  show w.heap.size < (w.heap.push o).size
  rw [Array.size_push]; exact Nat.lt_succ_self _
/-- Sort, at a row of the call's own. -/
theorem reads_sort {W : World} {base : Nat} {v : Value} {xs : List Int} (h : W.ownsRow base 3 1 v xs.length (nums .i64 xs)) (hl : xs.length ≤ 100) :
    Calls Tryd.prog 65 #[v] W fun e w' => e = .returned (.tuple #[]) ∧ w'.ownsRow base 3 1 v (xs.mergeSort fun x y => decide (x ≤ y)).length (nums .i64 (xs.mergeSort fun x y => decide (x ≤ y))) ∧ Below base W w' := by
  rcases h.2 with ⟨h1, h2⟩ | ⟨g, cap, cur, rfl, hg, hh, hn, hm, hs, ht⟩
  · subst h1
    have h0 : xs = [] := List.length_eq_zero_iff.1 h2
    subst h0
    refine (Tryd.slices_Sort_int_none _ _ W).mono ?_
    rintro e w' ⟨rfl, rfl⟩
    exact ⟨rfl, by simpa using h, Below.refl _ _⟩
  · obtain ⟨a1, a2, a3, a4, a5⟩ := own_holds h
    refine (Tryd.slices_Sort_int g 0 cap xs W a1 a2 (by omega)).mono ?_
    rintro e w' ⟨rfl, n, os, rfl⟩
    have p := put_own (q := n) (os := os) (ys := xs.mergeSort fun x y => decide (x ≤ y)) h (by simp)
    refine ⟨rfl, ?_, p.2.mono a3⟩
    have := p.1
    simpa using this
/-- Compact, at a row of the call's own. -/
theorem reads_compact {W : World} {base : Nat} {v : Value} {xs : List Int} (h : W.ownsRow base 3 1 v xs.length (nums .i64 xs)) (hl : xs.length ≤ 100) :
    Calls Tryd.prog 66 #[v] W fun e w' => ∃ v', e = .returned v' ∧ w'.ownsRow base 3 1 v' (Lib.compact xs).length (nums .i64 (Lib.compact xs)) ∧ Below base W w' := by
  rcases h.2 with ⟨h1, h2⟩ | ⟨g, cap, cur, rfl, hg, hh, hn, hm, hs, ht⟩
  · subst h1
    have h0 : xs = [] := List.length_eq_zero_iff.1 h2
    subst h0
    refine (Tryd.slices_Compact_int_empty _ _ W).mono ?_
    rintro e w' ⟨rfl, rfl⟩
    exact ⟨_, rfl, h, Below.refl _ _⟩
  · obtain ⟨a1, a2, a3, a4, a5⟩ := own_holds h
    refine (Tryd.slices_Compact_int g 0 cap xs W a1 (by omega) (by omega)).mono ?_
    rintro e w' ⟨rfl, q, rfl⟩
    have hc := Lib.compact_length_le xs
    have p := put_own (q := q) (os := #[]) (ys := Lib.compact xs ++ List.replicate (xs.length - (Lib.compact xs).length) 0) h (by simp; omega)
    rw [Sort.grow_empty] at p
    have p1 := p.1
    exact ⟨_, rfl, own_cut p1, p.2.mono a3⟩
theorem own_down {W : World} {base base' n : Nat} {e : TypeId} {v : Value} {xs : List Value} (h : W.ownsRow base e 1 v n xs) (hb : base' ≤ base) : W.ownsRow base' e 1 v n xs :=
  ⟨h.1, h.2.imp id fun ⟨g, cap, cur, a, b, c⟩ => ⟨g, cap, cur, a, Nat.le_trans hb b, c⟩⟩
theorem alloc2_last (w : World) (o1 o2 : Obj) : ((w.alloc o1).alloc o2).heap[w.heap.size + 1]? = some o2 := by
  have e : w.heap.size + 1 = (w.alloc o1).heap.size := by show _ = (w.heap.push o1).size; rw [Array.size_push]
  rw [e]
  exact heap_last_ (w.alloc o1) o2
theorem alloc2_size (w : World) (o1 o2 : Obj) : w.heap.size + 1 + 1 ≤ ((w.alloc o1).alloc o2).heap.size := by
  show _ ≤ ((w.heap.push o1).push o2).size
  rw [Array.size_push, Array.size_push]
  exact Nat.le_refl _
theorem own_nil_ (w : World) (base : Nat) (e : TypeId) : w.ownsRow base e 1 (.slice none 0 0) ([] : List Int).length (nums .i64 []) := ⟨rfl, .inl ⟨rfl, rfl⟩⟩
theorem reads_own_le {W : World} {base m : Nat} {v : Value} {has sp : Bool} {x : Int} {xs : List Int} (_h : W.ownsRow base 3 1 v (reads_put has x sp xs).length (nums .i64 (reads_put has x sp xs))) (hl : xs.length ≤ m) : (reads_put has x sp xs).length ≤ m + 1 :=
  Nat.le_trans (reads_put_len has x sp xs) (Nat.succ_le_succ hl)
/-- What Reads gathers, ahead of the sort. -/
def reads_all (sd sn sm sa stack kp : Bool) (op d n m a : Int) : List Int :=
  reads_put (op == 37) 0 false (reads_put (kp || op == 3) d false (reads_put sa a false (reads_put sm m false (reads_put sn n stack []))))
def inst_Reads.f (k : Nat) (a0_0 a0_1 a0_2 a0_3 a0_4 a0_5 a0_6 a0_7 a0_8 a0_9 : Int) : Option (List Int) :=
  (inst_Is.f k a0_0 a0_1 a0_2 a0_3 a0_4 a0_5 a0_6 a0_7 a0_8 a0_9).bind fun t => if t = true then
    (inst_Shape.f a0_0).bind fun n => (inst_shapeOf.f n).bind fun s => (inst_keeps.f k a0_0).bind fun kp =>
      some (Lib.compact ((reads_all s.1 s.2.1 s.2.2.1 s.2.2.2.1 s.2.2.2.2.2.2.2.2.2.2.2 kp a0_0 a0_1 a0_2 a0_3 a0_4).mergeSort fun x y => decide (x ≤ y)))
  else some []
set_option maxHeartbeats 8000000 in
set_option maxRecDepth 100000 in
theorem inst_Reads.calls (k : Nat) (a0_0 a0_1 a0_2 a0_3 a0_4 a0_5 a0_6 a0_7 a0_8 a0_9 : Int) (r : List Int) (w : World) (h : inst_Reads.f k a0_0 a0_1 a0_2 a0_3 a0_4 a0_5 a0_6 a0_7 a0_8 a0_9 = some r) (hTab : TabW w := by first | exact hTab | exact TabW.drew hTab | exact TabW.drewN hTab _ | exact TabW.below hTab (by repeat (first | (with_reducible first | exact HB.out | apply below_alloc | apply pw_below_drewN | apply below_drew1) | refine Below.setCell ?_ (Aside0.out (by assumption)) _ | exact HB.out | exact Below.refl _ _))) :
    Calls Tryd.prog 33 #[.agg #[.int .i64 a0_0, .int .i64 a0_1, .int .i64 a0_2, .int .i64 a0_3, .int .i64 a0_4, .int .i64 a0_5, .int .u64 a0_6, .int .i64 a0_7, .int .i64 a0_8, .int .i64 a0_9]] w fun e w' => ∃ v0_ : Value, e = .returned (v0_) ∧ Kd.R (Kd.int .i64) 3 w' w.heap.size (fun _ => True) v0_ r ∧ Below w.heap.size w w' := by
  unfold inst_Reads.f at h
  obtain ⟨t, ht, h⟩ := Option.bind_eq_some_iff.mp h
  have A1 := Aside0.mk ht
  have HT := Aside0.mk (fun (W : World) (hb : Below w.heap.size w W) => TabW.below hTab hb)
  clear ht hTab
  by_cases c : t = true
  · subst c
    rw [if_pos rfl] at h
    obtain ⟨n, h1, h⟩ := Option.bind_eq_some_iff.mp h
    obtain ⟨⟨r1, r2, r3, r4, r5, r6, r7, r8, r9, r10, r11, r12⟩, h2, h⟩ := Option.bind_eq_some_iff.mp h
    obtain ⟨kp, h3, h⟩ := Option.bind_eq_some_iff.mp h
    have A2 := Aside0.mk h1
    have A3 := Aside0.mk h2
    have A4 := Aside0.mk h3
    have A5 := Aside0.mk (Option.some.inj h)
    clear h1 h2 h3 h
    go_enter Tryd.func33, Tryd.ntmps33
    go_wp2_with (first | (go_at_call 64; refine (reads_putCalls _ _ _ _ _ _ _ HG.out HO.out (Nat.le_trans HL.out (by decide)) HS.out).mono ?_; rintro e W1 ⟨rfl, v1, g1, o1, b1⟩; have n1_ := Aside0.mk ((b1.block w.heap.size (by have := HW.out; omega)).trans BK.out); have n2_ := Aside0.mk (HB.out.trans (b1.mono (by have := HW.out; omega))); have n3_ := Aside0.mk ((b1.block w3.heap.size (by omega)).trans S3.out); have n4_ := Aside0.mk (Nat.le_trans HS.out b1.size); have n5_ := Aside0.mk (reads_own_le o1 HL.out); have n6_ := Aside0.mk g1; have n7_ := Aside0.mk o1; clear BK HB S3 HG HO HS HL g1 o1 b1 hcB0 hcB1 hcB2 hcB3 hcB4 hcS0 hcS1 hcS2 hcS3 hcG hfG; have BK := n1_; have HB := n2_; have S3 := n3_; have HS := n4_; have HL := n5_; have HG := n6_; have HO := n7_; clear n1_ n2_ n3_ n4_ n5_ n6_ n7_; have hcB0 := (blk_cell BK.out 0).trans rfl; have hcB1 := (blk_cell BK.out 1).trans rfl; have hcB2 := (blk_cell BK.out 2).trans rfl; have hcB3 := (blk_cell BK.out 3).trans rfl; have hcB4 := (blk_cell BK.out 4).trans rfl; have hcS0 := (blk_cell S3.out 0).trans rfl; have hcS1 := (blk_cell S3.out 1).trans rfl; have hcS2 := (blk_cell S3.out 2).trans rfl; have hcS3 := (blk_cell S3.out 3).trans rfl; obtain ⟨hcG, hfG⟩ := box_cell HG.out) | (go_at_call 64; refine (reads_putCalls (w3.heap.size + 1) (.slice none 0 0) [] _ _ _ _ (alloc2_last _ _ _) (own_nil_ _ _ _) (Nat.zero_le _) (alloc2_size _ _ _)).mono ?_; rintro e W1 ⟨rfl, v1, g1, o1, b1⟩; have HW := Aside0.mk (Array.getElem?_eq_some_iff.1 BK.out).1; have n1_ := Aside0.mk ((b1.block w.heap.size (by have := HW.out; omega)).trans (blk_alloc (blk_alloc BK.out _) _)); have n2_ := Aside0.mk ((below_alloc (below_alloc HB.out _) _).trans (b1.mono (by have := HW.out; omega))); have n3_ := Aside0.mk ((b1.block w3.heap.size (by omega)).trans (blk_alloc (heap_last_ w3 _) _)); have n4_ := Aside0.mk (Nat.le_trans (alloc2_size w3 _ _) b1.size); have n5_ := Aside0.mk (show (reads_put r2 a0_2 r12 []).length ≤ 1 from reads_put_len r2 a0_2 r12 []); have n6_ := Aside0.mk g1; have n7_ := Aside0.mk o1; clear BK HB hq2 g1 o1 b1; have BK := n1_; have HB := n2_; have S3 := n3_; have HS := n4_; have HL := n5_; have HG := n6_; have HO := n7_; clear n1_ n2_ n3_ n4_ n5_ n6_ n7_; have hcB0 := (blk_cell BK.out 0).trans rfl; have hcB1 := (blk_cell BK.out 1).trans rfl; have hcB2 := (blk_cell BK.out 2).trans rfl; have hcB3 := (blk_cell BK.out 3).trans rfl; have hcB4 := (blk_cell BK.out 4).trans rfl; have hcS0 := (blk_cell S3.out 0).trans rfl; have hcS1 := (blk_cell S3.out 1).trans rfl; have hcS2 := (blk_cell S3.out 2).trans rfl; have hcS3 := (blk_cell S3.out 3).trans rfl; obtain ⟨hcG, hfG⟩ := box_cell HG.out) | (go_at_call 30; refine (inst_Is.calls _ _ _ _ _ _ _ _ _ _ _ _ _ A1.out (HT.out _ (below_alloc (Below.refl _ _) _))).mono ?_; rintro e w1 ⟨rfl, hb1⟩; have bk1 : w1.heap[w.heap.size]? = some (.cells #[.int .i64 a0_0, .int .i64 a0_1, .int .i64 a0_2, .int .i64 a0_3, .int .i64 a0_4, .int .i64 a0_5, .int .u64 a0_6, .int .i64 a0_7, .int .i64 a0_8, .int .i64 a0_9] 37 (0, 0)) := (hb1.block w.heap.size (lt_alloc_ w _)).trans (heap_last_ w _); have hcA := (blk_cell bk1 0).trans rfl; have BK := Aside0.mk bk1; have HB := Aside0.mk (below_step (below_alloc (Below.refl _ _) _) hb1); clear hb1 bk1) | (go_at_call 36; refine (inst_Shape.calls _ _ _ A2.out).mono ?_; rintro e w2 ⟨rfl, hb2⟩; have n1_ := Aside0.mk (blk_below BK.out hb2); have n2_ := Aside0.mk (below_step HB.out hb2); clear BK HB hcA hb2; have BK := n1_; have HB := n2_; clear n1_ n2_) | (go_at_call 57; refine (inst_shapeOf.calls _ _ _ _ _ _ _ _ _ _ _ _ _ _ A3.out).mono ?_; rintro e w3 ⟨rfl, hb3⟩; have n1_ := Aside0.mk (blk_below BK.out hb3); have n2_ := Aside0.mk (below_step HB.out hb3); clear BK HB hb3; have BK := n1_; have HB := n2_; clear n1_ n2_; have hq2 := fun o o' => (blk_cell (blk_alloc (blk_alloc BK.out o) o') 2).trans rfl) | (go_at_call 56; refine (inst_keeps.calls _ _ _ _ A4.out).mono ?_; rintro e W1 ⟨rfl, b1⟩; have n1_ := Aside0.mk (blk_below BK.out b1); have n2_ := Aside0.mk (below_step HB.out b1); have n3_ := Aside0.mk (blk_below S3.out b1); have n4_ := Aside0.mk (Nat.le_trans HS.out b1.size); have n6_ := Aside0.mk (blk_below HG.out b1); have n7_ := Aside0.mk (own_move HO.out fun k hk => b1.block k (own_lt HO.out k hk)); clear BK HB S3 HG HO HS b1 hcB0 hcB1 hcB2 hcB3 hcB4 hcS0 hcS1 hcS2 hcS3 hcG hfG; have BK := n1_; have HB := n2_; have S3 := n3_; have HS := n4_; have HG := n6_; have HO := n7_; clear n1_ n2_ n3_ n4_ n6_ n7_; have hcB0 := (blk_cell BK.out 0).trans rfl; have hcB1 := (blk_cell BK.out 1).trans rfl; have hcB2 := (blk_cell BK.out 2).trans rfl; have hcB3 := (blk_cell BK.out 3).trans rfl; have hcB4 := (blk_cell BK.out 4).trans rfl; have hcS0 := (blk_cell S3.out 0).trans rfl; have hcS1 := (blk_cell S3.out 1).trans rfl; have hcS2 := (blk_cell S3.out 2).trans rfl; have hcS3 := (blk_cell S3.out 3).trans rfl; obtain ⟨hcG, hfG⟩ := box_cell HG.out) | (go_at_call 65; refine (reads_sort HO.out (Nat.le_trans HL.out (by decide))).mono ?_; rintro e W1 ⟨rfl, o1, b1⟩; have n2_ := Aside0.mk (HB.out.trans (b1.mono (by have := HW.out; omega))); have n6_ := Aside0.mk ((b1.block (w3.heap.size + 1) (by omega)).trans HG.out); have n7_ := Aside0.mk o1; clear BK HB S3 HG HO HS b1 o1 hcB0 hcB1 hcB2 hcB3 hcB4 hcS0 hcS1 hcS2 hcS3 hcG hfG; have HB := n2_; have HG := n6_; have HO := n7_; clear n2_ n6_ n7_; obtain ⟨hcG, hfG⟩ := box_cell HG.out) | (go_at_call 66; refine (reads_compact HO.out (by have := HL.out; simp; omega)).mono ?_; rintro e W1 ⟨v9, rfl, o1, b1⟩; have n2_ := Aside0.mk (HB.out.trans (b1.mono (by have := HW.out; omega))); have n7_ := Aside0.mk o1; clear HB HG HO b1 o1 hcG hfG; have HB := n2_; have HO := n7_; clear n2_ n7_))
    have n1_ := Aside0.mk (blk_drew BK.out); have n2_ := Aside0.mk (below_drew1 HB.out); have n3_ := Aside0.mk (blk_drew S3.out); have n4_ := Aside0.mk (show w3.heap.size + 1 + 1 ≤ W1.drew.heap.size from HS.out); have n6_ := Aside0.mk (blk_drew HG.out); have n7_ := Aside0.mk (own_move (w1 := W1.drew) HO.out fun k hk => rfl); clear BK HB S3 HG HO HS hcB0 hcB1 hcB2 hcB3 hcB4 hcS0 hcS1 hcS2 hcS3 hcG hfG; have BK := n1_; have HB := n2_; have S3 := n3_; have HS := n4_; have HG := n6_; have HO := n7_; clear n1_ n2_ n3_ n4_ n6_ n7_
    have hS0 : W1.drew.cell? ⟨w.heap.size, 0, none⟩ = some (.int .i64 a0_0) ∧ W1.drew.cell? ⟨w.heap.size, 1, none⟩ = some (.int .i64 a0_1) := ⟨(blk_cell BK.out 0).trans rfl, (blk_cell BK.out 1).trans rfl⟩
    cases kp
    · go_region_held3 (fun w' => w'.cell? ⟨w.heap.size, 0, none⟩ = some (.int .i64 a0_0) ∧ w'.cell? ⟨w.heap.size, 1, none⟩ = some (.int .i64 a0_1)) (exact ⟨(blk_cell BK.out 0).trans rfl, (blk_cell BK.out 1).trans rfl⟩) (first | (go_at_call 56; refine (inst_keeps.calls _ _ _ _ A4.out).mono ?_; rintro e W2 ⟨rfl, b1⟩; have n1_ := Aside0.mk (blk_below BK.out b1); have n2_ := Aside0.mk (below_step HB.out b1); have n3_ := Aside0.mk (blk_below S3.out b1); have n4_ := Aside0.mk (Nat.le_trans HS.out b1.size); have n6_ := Aside0.mk (blk_below HG.out b1); have n7_ := Aside0.mk (own_move HO.out fun k hk => b1.block k (own_lt HO.out k hk)); clear BK HB S3 HG HO HS b1; have BK := n1_; have HB := n2_; have S3 := n3_; have HS := n4_; have HG := n6_; have HO := n7_; clear n1_ n2_ n3_ n4_ n6_ n7_) | (go_at_call 64; refine (reads_putCalls _ _ _ _ _ _ _ HG.out HO.out (Nat.le_trans HL.out (by decide)) HS.out).mono ?_; rintro e W3 ⟨rfl, v1, g1, o1, b1⟩; have n1_ := Aside0.mk ((b1.block w.heap.size (by have := HW.out; omega)).trans BK.out); have n2_ := Aside0.mk (HB.out.trans (b1.mono (by have := HW.out; omega))); have n3_ := Aside0.mk ((b1.block w3.heap.size (by omega)).trans S3.out); have n4_ := Aside0.mk (Nat.le_trans HS.out b1.size); have n5_ := Aside0.mk (reads_own_le o1 HL.out); have n6_ := Aside0.mk g1; have n7_ := Aside0.mk o1; clear BK HB S3 HG HO HS HL g1 o1 b1; have BK := n1_; have HB := n2_; have S3 := n3_; have HS := n4_; have HL := n5_; have HG := n6_; have HO := n7_; clear n1_ n2_ n3_ n4_ n5_ n6_ n7_))
      have hcB0 := (blk_cell BK.out 0).trans rfl; have hcB1 := (blk_cell BK.out 1).trans rfl; have hcB2 := (blk_cell BK.out 2).trans rfl; have hcB3 := (blk_cell BK.out 3).trans rfl; have hcB4 := (blk_cell BK.out 4).trans rfl; have hcS0 := (blk_cell S3.out 0).trans rfl; have hcS1 := (blk_cell S3.out 1).trans rfl; have hcS2 := (blk_cell S3.out 2).trans rfl; have hcS3 := (blk_cell S3.out 3).trans rfl; obtain ⟨hcG, hfG⟩ := box_cell HG.out
      go_wp2_with (first | (go_at_call 64; refine (reads_putCalls _ _ _ _ _ _ _ HG.out HO.out (Nat.le_trans HL.out (by decide)) HS.out).mono ?_; rintro e W1 ⟨rfl, v1, g1, o1, b1⟩; have n1_ := Aside0.mk ((b1.block w.heap.size (by have := HW.out; omega)).trans BK.out); have n2_ := Aside0.mk (HB.out.trans (b1.mono (by have := HW.out; omega))); have n3_ := Aside0.mk ((b1.block w3.heap.size (by omega)).trans S3.out); have n4_ := Aside0.mk (Nat.le_trans HS.out b1.size); have n5_ := Aside0.mk (reads_own_le o1 HL.out); have n6_ := Aside0.mk g1; have n7_ := Aside0.mk o1; clear BK HB S3 HG HO HS HL g1 o1 b1 hcB0 hcB1 hcB2 hcB3 hcB4 hcS0 hcS1 hcS2 hcS3 hcG hfG; have BK := n1_; have HB := n2_; have S3 := n3_; have HS := n4_; have HL := n5_; have HG := n6_; have HO := n7_; clear n1_ n2_ n3_ n4_ n5_ n6_ n7_; have hcB0 := (blk_cell BK.out 0).trans rfl; have hcB1 := (blk_cell BK.out 1).trans rfl; have hcB2 := (blk_cell BK.out 2).trans rfl; have hcB3 := (blk_cell BK.out 3).trans rfl; have hcB4 := (blk_cell BK.out 4).trans rfl; have hcS0 := (blk_cell S3.out 0).trans rfl; have hcS1 := (blk_cell S3.out 1).trans rfl; have hcS2 := (blk_cell S3.out 2).trans rfl; have hcS3 := (blk_cell S3.out 3).trans rfl; obtain ⟨hcG, hfG⟩ := box_cell HG.out) | (go_at_call 65; refine (reads_sort HO.out (Nat.le_trans HL.out (by decide))).mono ?_; rintro e W1 ⟨rfl, o1, b1⟩; have n2_ := Aside0.mk (HB.out.trans (b1.mono (by have := HW.out; omega))); have n6_ := Aside0.mk ((b1.block (w3.heap.size + 1) (by omega)).trans HG.out); have n7_ := Aside0.mk o1; clear BK HB S3 HG HO HS b1 o1 hcB0 hcB1 hcB2 hcB3 hcB4 hcS0 hcS1 hcS2 hcS3 hcG hfG; have HB := n2_; have HG := n6_; have HO := n7_; clear n2_ n6_ n7_; obtain ⟨hcG, hfG⟩ := box_cell HG.out) | (go_at_call 66; refine (reads_compact HO.out (by have := HL.out; simp; omega)).mono ?_; rintro e W1 ⟨v9, rfl, o1, b1⟩; have n2_ := Aside0.mk (HB.out.trans (b1.mono (by have := HW.out; omega))); have n7_ := Aside0.mk o1; clear HB HG HO b1 o1 hcG hfG; have HB := n2_; have HO := n7_; clear n2_ n7_))
      go_ret
      have ee := A5.out
      have oo := HO.out
      have hw := HW.out
      rw [← ee]
      exact ⟨_, rfl, own_R (own_down oo (by omega)), HB.out⟩
    · clear hS0
      refine start_ (n := 12) (S := (fun w' => w'.cell? ⟨w.heap.size, 0, none⟩ = some (.int .i64 a0_0) ∧ w'.cell? ⟨w.heap.size, 1, none⟩ = some (.int .i64 a0_1))) (ds := []) #[false, false, false, false, false, false, false, false, false, false, false, false] (by kernel_rfl) rfl rfl ⟨(blk_cell BK.out 0).trans rfl, (blk_cell BK.out 1).trans rfl⟩ (fun hHeld => ?_)
      generalize W1.drew = W1 at BK HB S3 HS HG HO hHeld ⊢
      refine pure_ (i := 0) (N := some 34) (v := ?_) (a' := ?_) #[true, false, false, false, false, false, false, false, false, false, false, false] rfl rfl (by kernel_rfl) (fun _ _ _ h => h) (Or.inl ⟨by rfl, ?_⟩) ?_ ?_
      rotate_left
      · intro w'
        go_simp
        with_reducible rfl
      rotate_left
      · simp only [Act.put, List.setIfInBounds_toArray, List.set_cons_zero, List.set_cons_succ, i64_w, i32_w]
        rfl
      refine pure_ (i := 1) (N := some 35) (v := ?_) (a' := ?_) #[true, true, false, false, false, false, false, false, false, false, false, false] rfl rfl (by kernel_rfl) (fun _ _ _ h => h) (Or.inl ⟨by rfl, ?_⟩) ?_ ?_
      rotate_left
      · intro w'
        go_simp
        with_reducible rfl
      rotate_left
      · simp only [Act.put, List.setIfInBounds_toArray, List.set_cons_zero, List.set_cons_succ, i64_w, i32_w]
        rfl
      refine pure_ (i := 9) (N := some 43) (v := ?_) (a' := ?_) #[true, true, false, false, false, false, false, false, false, true, false, false] rfl rfl (by kernel_rfl) (fun _ _ _ h => h) (Or.inl ⟨by rfl, ?_⟩) ?_ ?_
      rotate_left
      · intro w'
        go_simp
        with_reducible rfl
      rotate_left
      · simp only [Act.put, List.setIfInBounds_toArray, List.set_cons_zero, List.set_cons_succ, i64_w, i32_w]
        rfl
      refine take_ (i := 2) (N := some 36) (v := ?_) (a' := ?_) #[true, true, true, false, false, false, false, false, false, true, false, false] rfl rfl (by kernel_rfl) (fun _ _ _ h => h) (Or.inl ⟨by rfl, ?_⟩) hHeld ?_ ?_
      rotate_left
      · rintro w' ⟨s0, s1⟩
        go_simp
        with_reducible rfl
      rotate_left
      · simp only [Act.put, List.setIfInBounds_toArray, List.set_cons_zero, List.set_cons_succ, i64_w, i32_w]
        rfl
      refine take_ (i := 10) (N := some 44) (v := ?_) (a' := ?_) #[true, true, true, false, false, false, false, false, false, true, true, false] rfl rfl (by kernel_rfl) (fun _ _ _ h => h) (Or.inl ⟨by rfl, ?_⟩) hHeld ?_ ?_
      rotate_left
      · rintro w' ⟨s0, s1⟩
        go_simp
        with_reducible rfl
      rotate_left
      · simp only [Act.put, List.setIfInBounds_toArray, List.set_cons_zero, List.set_cons_succ, i64_w, i32_w]
        rfl
      refine one_ (i := 3) (N := some 37) #[true, true, true, true, false, false, false, false, false, true, true, false] rfl rfl (by kernel_rfl) (by decide) (fun K hK => ?_)
      refine call_ 56 #[.int .i64 a0_0] (by rfl) rfl (by unfold execOp; go_simp) ?_
      refine (inst_keeps.calls _ _ _ _ A4.out).mono ?_
      rintro e W2 ⟨rfl, b1⟩
      have n1_ := Aside0.mk (blk_below BK.out b1)
      have n2_ := Aside0.mk (below_step HB.out b1)
      have n3_ := Aside0.mk (blk_below S3.out b1)
      have n4_ := Aside0.mk (Nat.le_trans HS.out b1.size)
      have n6_ := Aside0.mk (blk_below HG.out b1)
      have n7_ := Aside0.mk (own_move HO.out fun k hk => b1.block k (own_lt HO.out k hk))
      clear BK HB S3 HG HO HS b1
      have BK := n1_
      have HB := n2_
      have S3 := n3_
      have HS := n4_
      have HG := n6_
      have HO := n7_
      clear n1_ n2_ n3_ n4_ n6_ n7_
      refine ⟨_, rfl, ?_⟩
      refine hK.out _ _ ⟨(blk_cell BK.out 0).trans rfl, (blk_cell BK.out 1).trans rfl⟩ (fun hHeld => ?_)
      clear hK K
      refine norm_ (a' := ?_) ?_ ?_
      rotate_left
      · show Act.put _ (some 37) _ = _
        simp only [Act.put, List.setIfInBounds_toArray, List.set_cons_zero, List.set_cons_succ, i64_w, i32_w]
        rfl
      refine pure_ (i := 4) (N := some 38) (v := ?_) (a' := ?_) #[true, true, true, true, true, false, false, false, false, true, true, false] rfl rfl (by kernel_rfl) (fun _ _ _ h => h) (Or.inl ⟨by rfl, ?_⟩) ?_ ?_
      rotate_left
      · intro w'
        go_simp
        with_reducible rfl
      rotate_left
      · simp only [Act.put, List.setIfInBounds_toArray, List.set_cons_zero, List.set_cons_succ, i64_w, i32_w]
        rfl
      refine pure_ (i := 5) (N := some 39) (v := undef) (a' := ?_) #[true, true, true, true, true, true, false, false, false, true, true, false] rfl rfl (by kernel_rfl) (fun _ _ _ h => h) (Or.inr ⟨by rfl, rfl⟩) ?_ ?_
      rotate_left
      · simp only [Act.put, List.setIfInBounds_toArray, List.set_cons_zero, List.set_cons_succ, i64_w, i32_w]
        rfl
      refine pure_ (i := 6) (N := some 40) (v := undef) (a' := ?_) #[true, true, true, true, true, true, true, false, false, true, true, false] rfl rfl (by kernel_rfl) (fun _ _ _ h => h) (Or.inr ⟨by rfl, rfl⟩) ?_ ?_
      rotate_left
      · simp only [Act.put, List.setIfInBounds_toArray, List.set_cons_zero, List.set_cons_succ, i64_w, i32_w]
        rfl
      refine pure_ (i := 7) (N := some 41) (v := undef) (a' := ?_) #[true, true, true, true, true, true, true, true, false, true, true, false] rfl rfl (by kernel_rfl) (fun _ _ _ h => h) (Or.inr ⟨by rfl, rfl⟩) ?_ ?_
      rotate_left
      · simp only [Act.put, List.setIfInBounds_toArray, List.set_cons_zero, List.set_cons_succ, i64_w, i32_w]
        rfl
      refine pure_ (i := 8) (N := some 42) (v := ?_) (a' := ?_) #[true, true, true, true, true, true, true, true, true, true, true, false] rfl rfl (by kernel_rfl) (fun _ _ _ h => h) (Or.inl ⟨by rfl, ?_⟩) ?_ ?_
      rotate_left
      · intro w'
        go_simp
        with_reducible rfl
      rotate_left
      · simp only [Act.put, List.setIfInBounds_toArray, List.set_cons_zero, List.set_cons_succ, i64_w, i32_w]
        rfl
      refine one_ (i := 11) (N := some 45) #[true, true, true, true, true, true, true, true, true, true, true, true] rfl rfl (by kernel_rfl) (by decide) (fun K hK => ?_)
      refine call_ 64 #[.bool true, .int .i64 a0_1, .bool false, .pointer (some ⟨w3.heap.size + 1, 0, none⟩)] (by rfl) rfl (by unfold execOp; go_simp) ?_
      refine (reads_putCalls _ _ _ _ _ _ _ HG.out HO.out (Nat.le_trans HL.out (by decide)) HS.out).mono ?_
      rintro e W3 ⟨rfl, v1, g1, o1, b1⟩
      have n1_ := Aside0.mk ((b1.block w.heap.size (by have := HW.out; omega)).trans BK.out)
      have n2_ := Aside0.mk (HB.out.trans (b1.mono (by have := HW.out; omega)))
      have n3_ := Aside0.mk ((b1.block w3.heap.size (by omega)).trans S3.out)
      have n4_ := Aside0.mk (Nat.le_trans HS.out b1.size)
      have n5_ := Aside0.mk (reads_own_le o1 HL.out)
      have n6_ := Aside0.mk g1
      have n7_ := Aside0.mk o1
      clear BK HB S3 HG HO HS HL g1 o1 b1
      have BK := n1_
      have HB := n2_
      have S3 := n3_
      have HS := n4_
      have HL := n5_
      have HG := n6_
      have HO := n7_
      clear n1_ n2_ n3_ n4_ n5_ n6_ n7_
      refine ⟨_, rfl, ?_⟩
      refine hK.out _ _ ⟨(blk_cell BK.out 0).trans rfl, (blk_cell BK.out 1).trans rfl⟩ (fun hHeld => ?_)
      clear hK K
      refine norm_ (a' := ?_) ?_ ?_
      rotate_left
      · show Act.put _ (some 45) _ = _
        simp only [Act.put, List.setIfInBounds_toArray, List.set_cons_zero, List.set_cons_succ, i64_w, i32_w]
        rfl
      refine done_ (by kernel_rfl) ?_
      have hcB0 := (blk_cell BK.out 0).trans rfl; have hcB1 := (blk_cell BK.out 1).trans rfl; have hcB2 := (blk_cell BK.out 2).trans rfl; have hcB3 := (blk_cell BK.out 3).trans rfl; have hcB4 := (blk_cell BK.out 4).trans rfl; have hcS0 := (blk_cell S3.out 0).trans rfl; have hcS1 := (blk_cell S3.out 1).trans rfl; have hcS2 := (blk_cell S3.out 2).trans rfl; have hcS3 := (blk_cell S3.out 3).trans rfl; obtain ⟨hcG, hfG⟩ := box_cell HG.out
      go_wp2_with (first | (go_at_call 64; refine (reads_putCalls _ _ _ _ _ _ _ HG.out HO.out (Nat.le_trans HL.out (by decide)) HS.out).mono ?_; rintro e W1 ⟨rfl, v1, g1, o1, b1⟩; have n1_ := Aside0.mk ((b1.block w.heap.size (by have := HW.out; omega)).trans BK.out); have n2_ := Aside0.mk (HB.out.trans (b1.mono (by have := HW.out; omega))); have n3_ := Aside0.mk ((b1.block w3.heap.size (by omega)).trans S3.out); have n4_ := Aside0.mk (Nat.le_trans HS.out b1.size); have n5_ := Aside0.mk (reads_own_le o1 HL.out); have n6_ := Aside0.mk g1; have n7_ := Aside0.mk o1; clear BK HB S3 HG HO HS HL g1 o1 b1 hcB0 hcB1 hcB2 hcB3 hcB4 hcS0 hcS1 hcS2 hcS3 hcG hfG; have BK := n1_; have HB := n2_; have S3 := n3_; have HS := n4_; have HL := n5_; have HG := n6_; have HO := n7_; clear n1_ n2_ n3_ n4_ n5_ n6_ n7_; have hcB0 := (blk_cell BK.out 0).trans rfl; have hcB1 := (blk_cell BK.out 1).trans rfl; have hcB2 := (blk_cell BK.out 2).trans rfl; have hcB3 := (blk_cell BK.out 3).trans rfl; have hcB4 := (blk_cell BK.out 4).trans rfl; have hcS0 := (blk_cell S3.out 0).trans rfl; have hcS1 := (blk_cell S3.out 1).trans rfl; have hcS2 := (blk_cell S3.out 2).trans rfl; have hcS3 := (blk_cell S3.out 3).trans rfl; obtain ⟨hcG, hfG⟩ := box_cell HG.out) | (go_at_call 65; refine (reads_sort HO.out (Nat.le_trans HL.out (by decide))).mono ?_; rintro e W1 ⟨rfl, o1, b1⟩; have n2_ := Aside0.mk (HB.out.trans (b1.mono (by have := HW.out; omega))); have n6_ := Aside0.mk ((b1.block (w3.heap.size + 1) (by omega)).trans HG.out); have n7_ := Aside0.mk o1; clear BK HB S3 HG HO HS b1 o1 hcB0 hcB1 hcB2 hcB3 hcB4 hcS0 hcS1 hcS2 hcS3 hcG hfG; have HB := n2_; have HG := n6_; have HO := n7_; clear n2_ n6_ n7_; obtain ⟨hcG, hfG⟩ := box_cell HG.out) | (go_at_call 66; refine (reads_compact HO.out (by have := HL.out; simp; omega)).mono ?_; rintro e W1 ⟨v9, rfl, o1, b1⟩; have n2_ := Aside0.mk (HB.out.trans (b1.mono (by have := HW.out; omega))); have n7_ := Aside0.mk o1; clear HB HG HO b1 o1 hcG hfG; have HB := n2_; have HO := n7_; clear n2_ n7_))
      go_ret
      have ee := A5.out
      have oo := HO.out
      have hw := HW.out
      rw [← ee]
      exact ⟨_, rfl, own_R (own_down oo (by omega)), HB.out⟩
  · rw [if_neg c] at h
    have A5 := Aside0.mk (Option.some.inj h)
    obtain rfl : t = false := by simpa using c
    clear h c
    go_enter Tryd.func33, Tryd.ntmps33
    go_wp2_with (first | (go_at_call 30; refine (inst_Is.calls _ _ _ _ _ _ _ _ _ _ _ _ _ A1.out (HT.out _ (below_alloc (Below.refl _ _) _))).mono ?_; rintro e w1 ⟨rfl, hb1⟩; have HB := Aside0.mk (below_step (below_alloc (Below.refl _ _) _) hb1); clear hb1))
    go_ret
    rw [← A5.out]
    exact ⟨_, rfl, own_R (own_nil_ _ _ _), HB.out⟩
def inst_Name.f (a0 : Int) : Option (ByteArray × Int) := if inst_Shape.f a0 = some 0 then some (⟨#[]⟩, 1) else some (inst_name a0.toNat, 0)
theorem inst_Name.calls (a0 : Int) (r1 : ByteArray) (r2 : Int) (w : World) (h : inst_Name.f a0 = some (r1, r2)) :
    Calls Tryd.prog 38 #[.int .i64 a0] w fun e w' => e = .returned (.tuple #[.string r1, .int .i64 r2]) ∧ Below w.heap.size w w' := by
  obtain ⟨s, hs⟩ : ∃ s, inst_Shape.f a0 = some s := ⟨_, rfl⟩
  unfold inst_Name.f at h
  rw [hs] at h
  have HS := Aside0.mk hs
  by_cases h0 : s = 0
  · subst h0
    rw [if_pos rfl] at h
    obtain ⟨rfl, rfl⟩ : _ ∧ _ := by simpa using h
    clear hs h
    go_enter Tryd.func38, Tryd.ntmps38
    go_wp2_with (first | (go_at_call 36; refine (inst_Shape.calls _ _ _ HS.out).mono ?_; rintro e w1 ⟨rfl, hb1⟩; have HB1 := Aside0.mk hb1; clear hb1))
    go_ret2
    exact ⟨rfl, HB1.out⟩
  · rw [if_neg (by simpa using h0)] at h
    obtain ⟨rfl, rfl⟩ : _ ∧ _ := by simpa using h
    have hr : 1 ≤ a0 ∧ a0 ≤ 39 := by
      unfold inst_Shape.f at hs
      have := Option.some.inj hs
      split at this
      · omega
      · split at this
        · omega
        · omega
    have hi := inst_index_int a0 (by omega) (by omega)
    have hf := inst_field0
    clear hs h
    go_enter Tryd.func38, Tryd.ntmps38
    go_wp2_with (first | (go_at_call 36; refine (inst_Shape.calls _ _ _ HS.out).mono ?_; rintro e w1 ⟨rfl, hb1⟩; have HB1 := Aside0.mk hb1; clear hb1) | (go_at_call 68; refine (inst_ops.calls _).mono ?_; rintro e w2 ⟨rfl, hb2⟩; have HB2 := Aside0.mk hb2; clear hb2))
    go_ret2
    exact ⟨rfl, below_step HB1.out HB2.out⟩
def cleatlaw04_shaped.f (k : Nat)  : Option (Bool) := (inst_Writes.f k 4 31 2 0 0 0 0 0 0 0).bind fun bt228 => ((inst_Writes.f k 12 31 2 2 0 0 0 0 0 0).bind fun bt230 => ((inst_Writes.f k 25 1 31 0 0 0 0 0 0 0).bind fun bt232 => ((inst_Name.f 39).bind fun bt234 => ((inst_Reads.f k 4 31 2 0 0 0 0 0 0 0).bind fun t236 => ((cleatref04_Same.f k t236 (([2] : List Int))).bind fun t242 => (if t242 = true then (if bt228.1 = 31 then (if bt228.2 = true then ((inst_Reads.f k 12 31 2 2 0 0 0 0 0 0).bind fun t243 => ((cleatref04_Same.f k t243 (([2] : List Int))).bind fun t249 => (if t249 = true then (if bt230.2 = true then (none) else ((inst_Reads.f k 25 1 31 0 0 0 0 0 0 0).bind fun t250 => ((cleatref04_Same.f k t250 (([1, 31] : List Int))).bind fun t256 => (if t256 = true then (if bt232.2 = true then (none) else (if bt234.1.toList = ([99, 115, 101, 108] : List UInt8) then (if bt234.2 = 0 then ((inst_Is.f k 4 31 2 0 0 0 0 0 0 0).bind fun t257 => (if t257 = true then ((inst_Is.f k 0 0 0 0 0 0 0 0 0 0).bind fun t258 => (if t258 = true then (none) else ((inst_Shape.f 29).bind fun t259 => (some (t259 == 11))))) else (none))) else (none)) else (none))) else (none))))) else (none)))) else (none)) else (none)) else (none)))))))
set_option maxHeartbeats 8000000 in
set_option maxRecDepth 100000 in
theorem cleatlaw04_shaped.calls (k : Nat)  (r : Bool) (w : World) (h : cleatlaw04_shaped.f k  = some r) (hTab : TabW w := by first | exact hTab | exact TabW.drew hTab | exact TabW.drewN hTab _ | exact TabW.below hTab (by repeat (first | (with_reducible first | exact HB.out | apply below_alloc | apply pw_below_drewN | apply below_drew1) | refine Below.setCell ?_ (Aside0.out (by assumption)) _ | exact HB.out | exact Below.refl _ _))) :
    Calls Tryd.prog 29 #[] w fun e w' => e = .returned (.bool r) ∧ Below w.heap.size w w' := by
 have hu37 := Tryd.underlying37
 have HB := Aside0.mk (Below.refl w.heap.size w)
 have H : ((inst_Writes.f k 4 31 2 0 0 0 0 0 0 0).bind fun bt228 => ((inst_Writes.f k 12 31 2 2 0 0 0 0 0 0).bind fun bt230 => ((inst_Writes.f k 25 1 31 0 0 0 0 0 0 0).bind fun bt232 => ((inst_Name.f 39).bind fun bt234 => ((inst_Reads.f k 4 31 2 0 0 0 0 0 0 0).bind fun t236 => ((cleatref04_Same.f k t236 (([2] : List Int))).bind fun t242 => (if t242 = true then (if bt228.1 = 31 then (if bt228.2 = true then ((inst_Reads.f k 12 31 2 2 0 0 0 0 0 0).bind fun t243 => ((cleatref04_Same.f k t243 (([2] : List Int))).bind fun t249 => (if t249 = true then (if bt230.2 = true then (none) else ((inst_Reads.f k 25 1 31 0 0 0 0 0 0 0).bind fun t250 => ((cleatref04_Same.f k t250 (([1, 31] : List Int))).bind fun t256 => (if t256 = true then (if bt232.2 = true then (none) else (if bt234.1.toList = ([99, 115, 101, 108] : List UInt8) then (if bt234.2 = 0 then ((inst_Is.f k 4 31 2 0 0 0 0 0 0 0).bind fun t257 => (if t257 = true then ((inst_Is.f k 0 0 0 0 0 0 0 0 0 0).bind fun t258 => (if t258 = true then (none) else ((inst_Shape.f 29).bind fun t259 => (some (t259 == 11))))) else (none))) else (none)) else (none))) else (none))))) else (none)))) else (none)) else (none)) else (none)))))))) = some r := h
 clear h
 replace H := Option.bind_eq_some_iff.mp H
 obtain ⟨⟨t228, t229⟩, A10, H⟩ := H
 replace H : ((inst_Writes.f k 12 31 2 2 0 0 0 0 0 0).bind fun bt230 => ((inst_Writes.f k 25 1 31 0 0 0 0 0 0 0).bind fun bt232 => ((inst_Name.f 39).bind fun bt234 => ((inst_Reads.f k 4 31 2 0 0 0 0 0 0 0).bind fun t236 => ((cleatref04_Same.f k t236 (([2] : List Int))).bind fun t242 => (if t242 = true then (if t228 = 31 then (if t229 = true then ((inst_Reads.f k 12 31 2 2 0 0 0 0 0 0).bind fun t243 => ((cleatref04_Same.f k t243 (([2] : List Int))).bind fun t249 => (if t249 = true then (if bt230.2 = true then (none) else ((inst_Reads.f k 25 1 31 0 0 0 0 0 0 0).bind fun t250 => ((cleatref04_Same.f k t250 (([1, 31] : List Int))).bind fun t256 => (if t256 = true then (if bt232.2 = true then (none) else (if bt234.1.toList = ([99, 115, 101, 108] : List UInt8) then (if bt234.2 = 0 then ((inst_Is.f k 4 31 2 0 0 0 0 0 0 0).bind fun t257 => (if t257 = true then ((inst_Is.f k 0 0 0 0 0 0 0 0 0 0).bind fun t258 => (if t258 = true then (none) else ((inst_Shape.f 29).bind fun t259 => (some (t259 == 11))))) else (none))) else (none)) else (none))) else (none))))) else (none)))) else (none)) else (none)) else (none))))))) = some r := H
 have A1 := Aside0.mk A10
 clear A10
 replace H := Option.bind_eq_some_iff.mp H
 obtain ⟨⟨t230, t231⟩, A20, H⟩ := H
 replace H : ((inst_Writes.f k 25 1 31 0 0 0 0 0 0 0).bind fun bt232 => ((inst_Name.f 39).bind fun bt234 => ((inst_Reads.f k 4 31 2 0 0 0 0 0 0 0).bind fun t236 => ((cleatref04_Same.f k t236 (([2] : List Int))).bind fun t242 => (if t242 = true then (if t228 = 31 then (if t229 = true then ((inst_Reads.f k 12 31 2 2 0 0 0 0 0 0).bind fun t243 => ((cleatref04_Same.f k t243 (([2] : List Int))).bind fun t249 => (if t249 = true then (if t231 = true then (none) else ((inst_Reads.f k 25 1 31 0 0 0 0 0 0 0).bind fun t250 => ((cleatref04_Same.f k t250 (([1, 31] : List Int))).bind fun t256 => (if t256 = true then (if bt232.2 = true then (none) else (if bt234.1.toList = ([99, 115, 101, 108] : List UInt8) then (if bt234.2 = 0 then ((inst_Is.f k 4 31 2 0 0 0 0 0 0 0).bind fun t257 => (if t257 = true then ((inst_Is.f k 0 0 0 0 0 0 0 0 0 0).bind fun t258 => (if t258 = true then (none) else ((inst_Shape.f 29).bind fun t259 => (some (t259 == 11))))) else (none))) else (none)) else (none))) else (none))))) else (none)))) else (none)) else (none)) else (none)))))) = some r := H
 have A2 := Aside0.mk A20
 clear A20
 replace H := Option.bind_eq_some_iff.mp H
 obtain ⟨⟨t232, t233⟩, A30, H⟩ := H
 replace H : ((inst_Name.f 39).bind fun bt234 => ((inst_Reads.f k 4 31 2 0 0 0 0 0 0 0).bind fun t236 => ((cleatref04_Same.f k t236 (([2] : List Int))).bind fun t242 => (if t242 = true then (if t228 = 31 then (if t229 = true then ((inst_Reads.f k 12 31 2 2 0 0 0 0 0 0).bind fun t243 => ((cleatref04_Same.f k t243 (([2] : List Int))).bind fun t249 => (if t249 = true then (if t231 = true then (none) else ((inst_Reads.f k 25 1 31 0 0 0 0 0 0 0).bind fun t250 => ((cleatref04_Same.f k t250 (([1, 31] : List Int))).bind fun t256 => (if t256 = true then (if t233 = true then (none) else (if bt234.1.toList = ([99, 115, 101, 108] : List UInt8) then (if bt234.2 = 0 then ((inst_Is.f k 4 31 2 0 0 0 0 0 0 0).bind fun t257 => (if t257 = true then ((inst_Is.f k 0 0 0 0 0 0 0 0 0 0).bind fun t258 => (if t258 = true then (none) else ((inst_Shape.f 29).bind fun t259 => (some (t259 == 11))))) else (none))) else (none)) else (none))) else (none))))) else (none)))) else (none)) else (none)) else (none))))) = some r := H
 have A3 := Aside0.mk A30
 clear A30
 replace H := Option.bind_eq_some_iff.mp H
 obtain ⟨⟨t234, t235⟩, A40, H⟩ := H
 replace H : ((inst_Reads.f k 4 31 2 0 0 0 0 0 0 0).bind fun t236 => ((cleatref04_Same.f k t236 (([2] : List Int))).bind fun t242 => (if t242 = true then (if t228 = 31 then (if t229 = true then ((inst_Reads.f k 12 31 2 2 0 0 0 0 0 0).bind fun t243 => ((cleatref04_Same.f k t243 (([2] : List Int))).bind fun t249 => (if t249 = true then (if t231 = true then (none) else ((inst_Reads.f k 25 1 31 0 0 0 0 0 0 0).bind fun t250 => ((cleatref04_Same.f k t250 (([1, 31] : List Int))).bind fun t256 => (if t256 = true then (if t233 = true then (none) else (if t234.toList = ([99, 115, 101, 108] : List UInt8) then (if t235 = 0 then ((inst_Is.f k 4 31 2 0 0 0 0 0 0 0).bind fun t257 => (if t257 = true then ((inst_Is.f k 0 0 0 0 0 0 0 0 0 0).bind fun t258 => (if t258 = true then (none) else ((inst_Shape.f 29).bind fun t259 => (some (t259 == 11))))) else (none))) else (none)) else (none))) else (none))))) else (none)))) else (none)) else (none)) else (none)))) = some r := H
 have A4 := Aside0.mk A40
 clear A40
 replace H := Option.bind_eq_some_iff.mp H
 obtain ⟨t236, A50, H⟩ := H
 replace H : ((cleatref04_Same.f k t236 (([2] : List Int))).bind fun t242 => (if t242 = true then (if t228 = 31 then (if t229 = true then ((inst_Reads.f k 12 31 2 2 0 0 0 0 0 0).bind fun t243 => ((cleatref04_Same.f k t243 (([2] : List Int))).bind fun t249 => (if t249 = true then (if t231 = true then (none) else ((inst_Reads.f k 25 1 31 0 0 0 0 0 0 0).bind fun t250 => ((cleatref04_Same.f k t250 (([1, 31] : List Int))).bind fun t256 => (if t256 = true then (if t233 = true then (none) else (if t234.toList = ([99, 115, 101, 108] : List UInt8) then (if t235 = 0 then ((inst_Is.f k 4 31 2 0 0 0 0 0 0 0).bind fun t257 => (if t257 = true then ((inst_Is.f k 0 0 0 0 0 0 0 0 0 0).bind fun t258 => (if t258 = true then (none) else ((inst_Shape.f 29).bind fun t259 => (some (t259 == 11))))) else (none))) else (none)) else (none))) else (none))))) else (none)))) else (none)) else (none)) else (none))) = some r := H
 have A5 := Aside0.mk A50
 clear A50
 obtain ⟨y239, hy239⟩ : ∃ y_ : List Int, y_ = (([2] : List Int)) := ⟨_, rfl⟩
 replace H : ((cleatref04_Same.f k t236 y239).bind fun t242 => (if t242 = true then (if t228 = 31 then (if t229 = true then ((inst_Reads.f k 12 31 2 2 0 0 0 0 0 0).bind fun t243 => ((cleatref04_Same.f k t243 (([2] : List Int))).bind fun t249 => (if t249 = true then (if t231 = true then (none) else ((inst_Reads.f k 25 1 31 0 0 0 0 0 0 0).bind fun t250 => ((cleatref04_Same.f k t250 (([1, 31] : List Int))).bind fun t256 => (if t256 = true then (if t233 = true then (none) else (if t234.toList = ([99, 115, 101, 108] : List UInt8) then (if t235 = 0 then ((inst_Is.f k 4 31 2 0 0 0 0 0 0 0).bind fun t257 => (if t257 = true then ((inst_Is.f k 0 0 0 0 0 0 0 0 0 0).bind fun t258 => (if t258 = true then (none) else ((inst_Shape.f 29).bind fun t259 => (some (t259 == 11))))) else (none))) else (none)) else (none))) else (none))))) else (none)))) else (none)) else (none)) else (none))) = some r := by first | (rw [hy239]; with_reducible exact H) | (have H2_ := (Option.bind_some _ _).symm.trans H; rw [hy239]; with_reducible exact H2_) | (have H2_ := (Option.bind_some _ _).symm.trans H; with_reducible exact H2_) | with_reducible exact H | (rw [hy239]; exact H) | exact H
 have Ny239 := Aside0.mk hy239
 clear hy239
 replace H := Option.bind_eq_some_iff.mp H
 obtain ⟨t242, A60, H⟩ := H
 replace H : (if t242 = true then (if t228 = 31 then (if t229 = true then ((inst_Reads.f k 12 31 2 2 0 0 0 0 0 0).bind fun t243 => ((cleatref04_Same.f k t243 (([2] : List Int))).bind fun t249 => (if t249 = true then (if t231 = true then (none) else ((inst_Reads.f k 25 1 31 0 0 0 0 0 0 0).bind fun t250 => ((cleatref04_Same.f k t250 (([1, 31] : List Int))).bind fun t256 => (if t256 = true then (if t233 = true then (none) else (if t234.toList = ([99, 115, 101, 108] : List UInt8) then (if t235 = 0 then ((inst_Is.f k 4 31 2 0 0 0 0 0 0 0).bind fun t257 => (if t257 = true then ((inst_Is.f k 0 0 0 0 0 0 0 0 0 0).bind fun t258 => (if t258 = true then (none) else ((inst_Shape.f 29).bind fun t259 => (some (t259 == 11))))) else (none))) else (none)) else (none))) else (none))))) else (none)))) else (none)) else (none)) else (none)) = some r := H
 have A6 := Aside0.mk A60
 clear A60
 by_cases c7 : t242 = true
 ·
  subst c7
  have H1 : (if t228 = 31 then (if t229 = true then ((inst_Reads.f k 12 31 2 2 0 0 0 0 0 0).bind fun t243 => ((cleatref04_Same.f k t243 (([2] : List Int))).bind fun t249 => (if t249 = true then (if t231 = true then (none) else ((inst_Reads.f k 25 1 31 0 0 0 0 0 0 0).bind fun t250 => ((cleatref04_Same.f k t250 (([1, 31] : List Int))).bind fun t256 => (if t256 = true then (if t233 = true then (none) else (if t234.toList = ([99, 115, 101, 108] : List UInt8) then (if t235 = 0 then ((inst_Is.f k 4 31 2 0 0 0 0 0 0 0).bind fun t257 => (if t257 = true then ((inst_Is.f k 0 0 0 0 0 0 0 0 0 0).bind fun t258 => (if t258 = true then (none) else ((inst_Shape.f 29).bind fun t259 => (some (t259 == 11))))) else (none))) else (none)) else (none))) else (none))))) else (none)))) else (none)) else (none)) = some r := by rw [if_pos rfl] at H; exact H
  clear H
  have H := H1
  clear H1
  by_cases c8 : t228 = 31
  ·
   rw [if_pos c8] at H
   have c8b0 : (t228 == 31) = true := beq_iff_eq.mpr c8
   have c8b1 : (t228 != 31) = false := bne_eq_false_iff_eq.mpr c8
   clear c8
   by_cases c9 : t229 = true
   ·
    subst c9
    have H1 : ((inst_Reads.f k 12 31 2 2 0 0 0 0 0 0).bind fun t243 => ((cleatref04_Same.f k t243 (([2] : List Int))).bind fun t249 => (if t249 = true then (if t231 = true then (none) else ((inst_Reads.f k 25 1 31 0 0 0 0 0 0 0).bind fun t250 => ((cleatref04_Same.f k t250 (([1, 31] : List Int))).bind fun t256 => (if t256 = true then (if t233 = true then (none) else (if t234.toList = ([99, 115, 101, 108] : List UInt8) then (if t235 = 0 then ((inst_Is.f k 4 31 2 0 0 0 0 0 0 0).bind fun t257 => (if t257 = true then ((inst_Is.f k 0 0 0 0 0 0 0 0 0 0).bind fun t258 => (if t258 = true then (none) else ((inst_Shape.f 29).bind fun t259 => (some (t259 == 11))))) else (none))) else (none)) else (none))) else (none))))) else (none)))) = some r := by rw [if_pos rfl] at H; exact H
    clear H
    have H := H1
    clear H1
    replace H := Option.bind_eq_some_iff.mp H
    obtain ⟨t243, A100, H⟩ := H
    replace H : ((cleatref04_Same.f k t243 (([2] : List Int))).bind fun t249 => (if t249 = true then (if t231 = true then (none) else ((inst_Reads.f k 25 1 31 0 0 0 0 0 0 0).bind fun t250 => ((cleatref04_Same.f k t250 (([1, 31] : List Int))).bind fun t256 => (if t256 = true then (if t233 = true then (none) else (if t234.toList = ([99, 115, 101, 108] : List UInt8) then (if t235 = 0 then ((inst_Is.f k 4 31 2 0 0 0 0 0 0 0).bind fun t257 => (if t257 = true then ((inst_Is.f k 0 0 0 0 0 0 0 0 0 0).bind fun t258 => (if t258 = true then (none) else ((inst_Shape.f 29).bind fun t259 => (some (t259 == 11))))) else (none))) else (none)) else (none))) else (none))))) else (none))) = some r := H
    have A10 := Aside0.mk A100
    clear A100
    obtain ⟨y246, hy246⟩ : ∃ y_ : List Int, y_ = (([2] : List Int)) := ⟨_, rfl⟩
    replace H : ((cleatref04_Same.f k t243 y246).bind fun t249 => (if t249 = true then (if t231 = true then (none) else ((inst_Reads.f k 25 1 31 0 0 0 0 0 0 0).bind fun t250 => ((cleatref04_Same.f k t250 (([1, 31] : List Int))).bind fun t256 => (if t256 = true then (if t233 = true then (none) else (if t234.toList = ([99, 115, 101, 108] : List UInt8) then (if t235 = 0 then ((inst_Is.f k 4 31 2 0 0 0 0 0 0 0).bind fun t257 => (if t257 = true then ((inst_Is.f k 0 0 0 0 0 0 0 0 0 0).bind fun t258 => (if t258 = true then (none) else ((inst_Shape.f 29).bind fun t259 => (some (t259 == 11))))) else (none))) else (none)) else (none))) else (none))))) else (none))) = some r := by first | (rw [hy246]; with_reducible exact H) | (have H2_ := (Option.bind_some _ _).symm.trans H; rw [hy246]; with_reducible exact H2_) | (have H2_ := (Option.bind_some _ _).symm.trans H; with_reducible exact H2_) | with_reducible exact H | (rw [hy246]; exact H) | exact H
    have Ny246 := Aside0.mk hy246
    clear hy246
    replace H := Option.bind_eq_some_iff.mp H
    obtain ⟨t249, A110, H⟩ := H
    replace H : (if t249 = true then (if t231 = true then (none) else ((inst_Reads.f k 25 1 31 0 0 0 0 0 0 0).bind fun t250 => ((cleatref04_Same.f k t250 (([1, 31] : List Int))).bind fun t256 => (if t256 = true then (if t233 = true then (none) else (if t234.toList = ([99, 115, 101, 108] : List UInt8) then (if t235 = 0 then ((inst_Is.f k 4 31 2 0 0 0 0 0 0 0).bind fun t257 => (if t257 = true then ((inst_Is.f k 0 0 0 0 0 0 0 0 0 0).bind fun t258 => (if t258 = true then (none) else ((inst_Shape.f 29).bind fun t259 => (some (t259 == 11))))) else (none))) else (none)) else (none))) else (none))))) else (none)) = some r := H
    have A11 := Aside0.mk A110
    clear A110
    by_cases c12 : t249 = true
    ·
     subst c12
     have H1 : (if t231 = true then (none) else ((inst_Reads.f k 25 1 31 0 0 0 0 0 0 0).bind fun t250 => ((cleatref04_Same.f k t250 (([1, 31] : List Int))).bind fun t256 => (if t256 = true then (if t233 = true then (none) else (if t234.toList = ([99, 115, 101, 108] : List UInt8) then (if t235 = 0 then ((inst_Is.f k 4 31 2 0 0 0 0 0 0 0).bind fun t257 => (if t257 = true then ((inst_Is.f k 0 0 0 0 0 0 0 0 0 0).bind fun t258 => (if t258 = true then (none) else ((inst_Shape.f 29).bind fun t259 => (some (t259 == 11))))) else (none))) else (none)) else (none))) else (none))))) = some r := by rw [if_pos rfl] at H; exact H
     clear H
     have H := H1
     clear H1
     by_cases c13 : t231 = true
     ·
      subst c13
      have H1 : (none) = some r := by rw [if_pos rfl] at H; exact H
      clear H
      have H := H1
      clear H1
      exact absurd H (by simp)
     ·
      replace c13 := Bool.eq_false_iff.mpr c13
      subst c13
      have H1 : ((inst_Reads.f k 25 1 31 0 0 0 0 0 0 0).bind fun t250 => ((cleatref04_Same.f k t250 (([1, 31] : List Int))).bind fun t256 => (if t256 = true then (if t233 = true then (none) else (if t234.toList = ([99, 115, 101, 108] : List UInt8) then (if t235 = 0 then ((inst_Is.f k 4 31 2 0 0 0 0 0 0 0).bind fun t257 => (if t257 = true then ((inst_Is.f k 0 0 0 0 0 0 0 0 0 0).bind fun t258 => (if t258 = true then (none) else ((inst_Shape.f 29).bind fun t259 => (some (t259 == 11))))) else (none))) else (none)) else (none))) else (none)))) = some r := by rw [if_neg (show ¬ (false = true) by decide)] at H; exact H
      clear H
      have H := H1
      clear H1
      replace H := Option.bind_eq_some_iff.mp H
      obtain ⟨t250, A140, H⟩ := H
      replace H : ((cleatref04_Same.f k t250 (([1, 31] : List Int))).bind fun t256 => (if t256 = true then (if t233 = true then (none) else (if t234.toList = ([99, 115, 101, 108] : List UInt8) then (if t235 = 0 then ((inst_Is.f k 4 31 2 0 0 0 0 0 0 0).bind fun t257 => (if t257 = true then ((inst_Is.f k 0 0 0 0 0 0 0 0 0 0).bind fun t258 => (if t258 = true then (none) else ((inst_Shape.f 29).bind fun t259 => (some (t259 == 11))))) else (none))) else (none)) else (none))) else (none))) = some r := H
      have A14 := Aside0.mk A140
      clear A140
      obtain ⟨y253, hy253⟩ : ∃ y_ : List Int, y_ = (([1, 31] : List Int)) := ⟨_, rfl⟩
      replace H : ((cleatref04_Same.f k t250 y253).bind fun t256 => (if t256 = true then (if t233 = true then (none) else (if t234.toList = ([99, 115, 101, 108] : List UInt8) then (if t235 = 0 then ((inst_Is.f k 4 31 2 0 0 0 0 0 0 0).bind fun t257 => (if t257 = true then ((inst_Is.f k 0 0 0 0 0 0 0 0 0 0).bind fun t258 => (if t258 = true then (none) else ((inst_Shape.f 29).bind fun t259 => (some (t259 == 11))))) else (none))) else (none)) else (none))) else (none))) = some r := by first | (rw [hy253]; with_reducible exact H) | (have H2_ := (Option.bind_some _ _).symm.trans H; rw [hy253]; with_reducible exact H2_) | (have H2_ := (Option.bind_some _ _).symm.trans H; with_reducible exact H2_) | with_reducible exact H | (rw [hy253]; exact H) | exact H
      have Ny253 := Aside0.mk hy253
      clear hy253
      replace H := Option.bind_eq_some_iff.mp H
      obtain ⟨t256, A150, H⟩ := H
      replace H : (if t256 = true then (if t233 = true then (none) else (if t234.toList = ([99, 115, 101, 108] : List UInt8) then (if t235 = 0 then ((inst_Is.f k 4 31 2 0 0 0 0 0 0 0).bind fun t257 => (if t257 = true then ((inst_Is.f k 0 0 0 0 0 0 0 0 0 0).bind fun t258 => (if t258 = true then (none) else ((inst_Shape.f 29).bind fun t259 => (some (t259 == 11))))) else (none))) else (none)) else (none))) else (none)) = some r := H
      have A15 := Aside0.mk A150
      clear A150
      by_cases c16 : t256 = true
      ·
       subst c16
       have H1 : (if t233 = true then (none) else (if t234.toList = ([99, 115, 101, 108] : List UInt8) then (if t235 = 0 then ((inst_Is.f k 4 31 2 0 0 0 0 0 0 0).bind fun t257 => (if t257 = true then ((inst_Is.f k 0 0 0 0 0 0 0 0 0 0).bind fun t258 => (if t258 = true then (none) else ((inst_Shape.f 29).bind fun t259 => (some (t259 == 11))))) else (none))) else (none)) else (none))) = some r := by rw [if_pos rfl] at H; exact H
       clear H
       have H := H1
       clear H1
       by_cases c17 : t233 = true
       ·
        subst c17
        have H1 : (none) = some r := by rw [if_pos rfl] at H; exact H
        clear H
        have H := H1
        clear H1
        exact absurd H (by simp)
       ·
        replace c17 := Bool.eq_false_iff.mpr c17
        subst c17
        have H1 : (if t234.toList = ([99, 115, 101, 108] : List UInt8) then (if t235 = 0 then ((inst_Is.f k 4 31 2 0 0 0 0 0 0 0).bind fun t257 => (if t257 = true then ((inst_Is.f k 0 0 0 0 0 0 0 0 0 0).bind fun t258 => (if t258 = true then (none) else ((inst_Shape.f 29).bind fun t259 => (some (t259 == 11))))) else (none))) else (none)) else (none)) = some r := by rw [if_neg (show ¬ (false = true) by decide)] at H; exact H
        clear H
        have H := H1
        clear H1
        by_cases c18 : t234.toList = ([99, 115, 101, 108] : List UInt8)
        ·
         rw [if_pos c18] at H
         have c18b0 : (t234.toList == ([99, 115, 101, 108] : List UInt8)) = true := beq_iff_eq.mpr c18
         have c18b1 : (t234.toList != ([99, 115, 101, 108] : List UInt8)) = false := bne_eq_false_iff_eq.mpr c18
         clear c18
         by_cases c19 : t235 = 0
         ·
          rw [if_pos c19] at H
          have c19b0 : (t235 == 0) = true := beq_iff_eq.mpr c19
          have c19b1 : (t235 != 0) = false := bne_eq_false_iff_eq.mpr c19
          clear c19
          replace H := Option.bind_eq_some_iff.mp H
          obtain ⟨t257, A200, H⟩ := H
          replace H : (if t257 = true then ((inst_Is.f k 0 0 0 0 0 0 0 0 0 0).bind fun t258 => (if t258 = true then (none) else ((inst_Shape.f 29).bind fun t259 => (some (t259 == 11))))) else (none)) = some r := H
          have A20 := Aside0.mk A200
          clear A200
          by_cases c21 : t257 = true
          ·
           subst c21
           have H1 : ((inst_Is.f k 0 0 0 0 0 0 0 0 0 0).bind fun t258 => (if t258 = true then (none) else ((inst_Shape.f 29).bind fun t259 => (some (t259 == 11))))) = some r := by rw [if_pos rfl] at H; exact H
           clear H
           have H := H1
           clear H1
           replace H := Option.bind_eq_some_iff.mp H
           obtain ⟨t258, A220, H⟩ := H
           replace H : (if t258 = true then (none) else ((inst_Shape.f 29).bind fun t259 => (some (t259 == 11)))) = some r := H
           have A22 := Aside0.mk A220
           clear A220
           by_cases c23 : t258 = true
           ·
            subst c23
            have H1 : (none) = some r := by rw [if_pos rfl] at H; exact H
            clear H
            have H := H1
            clear H1
            exact absurd H (by simp)
           ·
            replace c23 := Bool.eq_false_iff.mpr c23
            subst c23
            have H1 : ((inst_Shape.f 29).bind fun t259 => (some (t259 == 11))) = some r := by rw [if_neg (show ¬ (false = true) by decide)] at H; exact H
            clear H
            have H := H1
            clear H1
            replace H := Option.bind_eq_some_iff.mp H
            obtain ⟨t259, A240, H⟩ := H
            replace H : (some (t259 == 11)) = some r := H
            have A24 := Aside0.mk A240
            clear A240
            obtain rfl := Option.some.inj H
            go_enter Tryd.func29, Tryd.ntmps29
            go_wp2_with (first | ((with_reducible refine gate_dst (N := 1) rfl ?_); (try (refine gate_guard (by rfl) ?_; dsimp only)); refine box_event ?hg (N := 1) ?hd (cs := #[.int .i64 0, .int .i64 0, .int .i64 0, .int .i64 0, .int .i64 0, .int .i64 0, .int .u64 0, .int .i64 0, .int .i64 0, .int .i64 0]) (t := 37) ?hr ?_; (case hd => rfl); (case hg => rfl); (case hr => first | (go_simp; done) | (go_simp; rfl)); intro gb225 hg w25 hbox hb; have n0_ := Aside0.mk (below_step (by repeat (first | (with_reducible first | exact HB.out | apply below_alloc | apply pw_below_drewN | apply below_drew1) | exact HB.out)) hb); have n1_ := Aside0.mk (hbox); have n2_ := Aside0.mk ((by rw [hg]; exact (below_size (by repeat (first | (with_reducible first | exact HB.out | apply below_alloc | apply pw_below_drewN | apply below_drew1) | exact HB.out))) : w.heap.size ≤ gb225)); have n3_ := Aside0.mk ((by rw [hg]; exact (below_size (by repeat (first | (with_reducible first | exact HB.out | apply below_alloc | apply pw_below_drewN | apply below_drew1) | exact HB.out))) : w.heap.size ≤ gb225)); clear HB; have HB := n0_; have BK225 := n1_; have GW225 := n2_; have GE225 := n3_; clear n0_ n1_ n2_ n3_; clear hb hbox hg; obtain ⟨hcz26_0, hcz26_1, hcz26_2, hcz26_3, hcz26_4, hcz26_5, hcz26_6, hcz26_7, hcz26_8, hcz26_9⟩ := cells10_ BK225.out; have hfz26_0 := fun j => blk_frozen BK225.out j) | ((with_reducible refine gate_dst (N := 2) rfl ?_); (try (refine gate_guard (by rfl) ?_; dsimp only)); refine box_event ?hg (N := 2) ?hd (cs := #[.int .i64 0, .int .i64 0, .int .i64 0, .int .i64 0, .int .i64 0, .int .i64 0, .int .u64 0, .int .i64 0, .int .i64 0, .int .i64 0]) (t := 37) ?hr ?_; (case hd => rfl); (case hg => rfl); (case hr => first | (go_simp; done) | (go_simp; rfl)); intro gb226 hg w27 hbox hb; have n0_ := Aside0.mk (blk_below (g := gb225) (o := .cells #[.int .i64 4, .int .i64 31, .int .i64 2, .int .i64 0, .int .i64 0, .int .i64 0, .int .u64 0, .int .i64 0, .int .i64 0, .int .i64 0] 37 (0, 0)) (by (with_reducible repeat (first | refine blk_drewN ?_ _ | refine blk_drew ?_ | refine blk_alloc ?_ _)); refine blk_put (cs := #[.int .i64 4, .int .i64 31, .int .i64 2, .int .i64 0, .int .i64 0, .int .i64 0, .int .u64 0, .int .i64 0, .int .i64 0, .int .i64 0]) ?_ 9 _ rfl; (with_reducible repeat (first | refine blk_drewN ?_ _ | refine blk_drew ?_ | refine blk_alloc ?_ _)); refine blk_put (cs := #[.int .i64 4, .int .i64 31, .int .i64 2, .int .i64 0, .int .i64 0, .int .i64 0, .int .u64 0, .int .i64 0, .int .i64 0, .int .i64 0]) ?_ 8 _ rfl; (with_reducible repeat (first | refine blk_drewN ?_ _ | refine blk_drew ?_ | refine blk_alloc ?_ _)); refine blk_put (cs := #[.int .i64 4, .int .i64 31, .int .i64 2, .int .i64 0, .int .i64 0, .int .i64 0, .int .u64 0, .int .i64 0, .int .i64 0, .int .i64 0]) ?_ 7 _ rfl; (with_reducible repeat (first | refine blk_drewN ?_ _ | refine blk_drew ?_ | refine blk_alloc ?_ _)); refine blk_put (cs := #[.int .i64 4, .int .i64 31, .int .i64 2, .int .i64 0, .int .i64 0, .int .i64 0, .int .u64 0, .int .i64 0, .int .i64 0, .int .i64 0]) ?_ 6 _ rfl; (with_reducible repeat (first | refine blk_drewN ?_ _ | refine blk_drew ?_ | refine blk_alloc ?_ _)); refine blk_put (cs := #[.int .i64 4, .int .i64 31, .int .i64 2, .int .i64 0, .int .i64 0, .int .i64 0, .int .u64 0, .int .i64 0, .int .i64 0, .int .i64 0]) ?_ 5 _ rfl; (with_reducible repeat (first | refine blk_drewN ?_ _ | refine blk_drew ?_ | refine blk_alloc ?_ _)); refine blk_put (cs := #[.int .i64 4, .int .i64 31, .int .i64 2, .int .i64 0, .int .i64 0, .int .i64 0, .int .u64 0, .int .i64 0, .int .i64 0, .int .i64 0]) ?_ 4 _ rfl; (with_reducible repeat (first | refine blk_drewN ?_ _ | refine blk_drew ?_ | refine blk_alloc ?_ _)); refine blk_put (cs := #[.int .i64 4, .int .i64 31, .int .i64 2, .int .i64 0, .int .i64 0, .int .i64 0, .int .u64 0, .int .i64 0, .int .i64 0, .int .i64 0]) ?_ 3 _ rfl; (with_reducible repeat (first | refine blk_drewN ?_ _ | refine blk_drew ?_ | refine blk_alloc ?_ _)); refine blk_put (cs := #[.int .i64 4, .int .i64 31, .int .i64 0, .int .i64 0, .int .i64 0, .int .i64 0, .int .u64 0, .int .i64 0, .int .i64 0, .int .i64 0]) ?_ 2 _ rfl; (with_reducible repeat (first | refine blk_drewN ?_ _ | refine blk_drew ?_ | refine blk_alloc ?_ _)); refine blk_put (cs := #[.int .i64 4, .int .i64 0, .int .i64 0, .int .i64 0, .int .i64 0, .int .i64 0, .int .u64 0, .int .i64 0, .int .i64 0, .int .i64 0]) ?_ 1 _ rfl; (with_reducible repeat (first | refine blk_drewN ?_ _ | refine blk_drew ?_ | refine blk_alloc ?_ _)); refine blk_put (cs := #[.int .i64 0, .int .i64 0, .int .i64 0, .int .i64 0, .int .i64 0, .int .i64 0, .int .u64 0, .int .i64 0, .int .i64 0, .int .i64 0]) ?_ 0 _ rfl; (with_reducible repeat (first | refine blk_drewN ?_ _ | refine blk_drew ?_ | refine blk_alloc ?_ _)); exact BK225.out) hb); have n1_ := Aside0.mk (below_step (by repeat (first | (with_reducible first | exact HB.out | apply below_alloc | apply pw_below_drewN | apply below_drew1 | refine below_set ?_ GE225.out) | exact HB.out)) hb); have n2_ := Aside0.mk (hbox); have n3_ := Aside0.mk ((by rw [hg]; exact (below_size (by repeat (first | (with_reducible first | exact HB.out | apply below_alloc | apply pw_below_drewN | apply below_drew1 | refine below_set ?_ GE225.out) | exact HB.out))) : w.heap.size ≤ gb226)); have n4_ := Aside0.mk ((by rw [hg]; exact (below_size (by repeat (first | (with_reducible first | exact HB.out | apply below_alloc | apply pw_below_drewN | apply below_drew1 | refine below_set ?_ GE225.out) | exact HB.out))) : w.heap.size ≤ gb226)); have n5_ := Aside0.mk ((by rw [hg]; exact Nat.ne_of_lt (blk_lt (g := gb225) (o := .cells #[.int .i64 4, .int .i64 31, .int .i64 2, .int .i64 0, .int .i64 0, .int .i64 0, .int .u64 0, .int .i64 0, .int .i64 0, .int .i64 0] 37 (0, 0)) (by (with_reducible repeat (first | refine blk_drewN ?_ _ | refine blk_drew ?_ | refine blk_alloc ?_ _)); refine blk_put (cs := #[.int .i64 4, .int .i64 31, .int .i64 2, .int .i64 0, .int .i64 0, .int .i64 0, .int .u64 0, .int .i64 0, .int .i64 0, .int .i64 0]) ?_ 9 _ rfl; (with_reducible repeat (first | refine blk_drewN ?_ _ | refine blk_drew ?_ | refine blk_alloc ?_ _)); refine blk_put (cs := #[.int .i64 4, .int .i64 31, .int .i64 2, .int .i64 0, .int .i64 0, .int .i64 0, .int .u64 0, .int .i64 0, .int .i64 0, .int .i64 0]) ?_ 8 _ rfl; (with_reducible repeat (first | refine blk_drewN ?_ _ | refine blk_drew ?_ | refine blk_alloc ?_ _)); refine blk_put (cs := #[.int .i64 4, .int .i64 31, .int .i64 2, .int .i64 0, .int .i64 0, .int .i64 0, .int .u64 0, .int .i64 0, .int .i64 0, .int .i64 0]) ?_ 7 _ rfl; (with_reducible repeat (first | refine blk_drewN ?_ _ | refine blk_drew ?_ | refine blk_alloc ?_ _)); refine blk_put (cs := #[.int .i64 4, .int .i64 31, .int .i64 2, .int .i64 0, .int .i64 0, .int .i64 0, .int .u64 0, .int .i64 0, .int .i64 0, .int .i64 0]) ?_ 6 _ rfl; (with_reducible repeat (first | refine blk_drewN ?_ _ | refine blk_drew ?_ | refine blk_alloc ?_ _)); refine blk_put (cs := #[.int .i64 4, .int .i64 31, .int .i64 2, .int .i64 0, .int .i64 0, .int .i64 0, .int .u64 0, .int .i64 0, .int .i64 0, .int .i64 0]) ?_ 5 _ rfl; (with_reducible repeat (first | refine blk_drewN ?_ _ | refine blk_drew ?_ | refine blk_alloc ?_ _)); refine blk_put (cs := #[.int .i64 4, .int .i64 31, .int .i64 2, .int .i64 0, .int .i64 0, .int .i64 0, .int .u64 0, .int .i64 0, .int .i64 0, .int .i64 0]) ?_ 4 _ rfl; (with_reducible repeat (first | refine blk_drewN ?_ _ | refine blk_drew ?_ | refine blk_alloc ?_ _)); refine blk_put (cs := #[.int .i64 4, .int .i64 31, .int .i64 2, .int .i64 0, .int .i64 0, .int .i64 0, .int .u64 0, .int .i64 0, .int .i64 0, .int .i64 0]) ?_ 3 _ rfl; (with_reducible repeat (first | refine blk_drewN ?_ _ | refine blk_drew ?_ | refine blk_alloc ?_ _)); refine blk_put (cs := #[.int .i64 4, .int .i64 31, .int .i64 0, .int .i64 0, .int .i64 0, .int .i64 0, .int .u64 0, .int .i64 0, .int .i64 0, .int .i64 0]) ?_ 2 _ rfl; (with_reducible repeat (first | refine blk_drewN ?_ _ | refine blk_drew ?_ | refine blk_alloc ?_ _)); refine blk_put (cs := #[.int .i64 4, .int .i64 0, .int .i64 0, .int .i64 0, .int .i64 0, .int .i64 0, .int .u64 0, .int .i64 0, .int .i64 0, .int .i64 0]) ?_ 1 _ rfl; (with_reducible repeat (first | refine blk_drewN ?_ _ | refine blk_drew ?_ | refine blk_alloc ?_ _)); refine blk_put (cs := #[.int .i64 0, .int .i64 0, .int .i64 0, .int .i64 0, .int .i64 0, .int .i64 0, .int .u64 0, .int .i64 0, .int .i64 0, .int .i64 0]) ?_ 0 _ rfl; (with_reducible repeat (first | refine blk_drewN ?_ _ | refine blk_drew ?_ | refine blk_alloc ?_ _)); exact BK225.out)) : gb225 ≠ gb226)); have n6_ := Aside0.mk ((by rw [hg]; exact Nat.ne_of_gt (blk_lt (g := gb225) (o := .cells #[.int .i64 4, .int .i64 31, .int .i64 2, .int .i64 0, .int .i64 0, .int .i64 0, .int .u64 0, .int .i64 0, .int .i64 0, .int .i64 0] 37 (0, 0)) (by (with_reducible repeat (first | refine blk_drewN ?_ _ | refine blk_drew ?_ | refine blk_alloc ?_ _)); refine blk_put (cs := #[.int .i64 4, .int .i64 31, .int .i64 2, .int .i64 0, .int .i64 0, .int .i64 0, .int .u64 0, .int .i64 0, .int .i64 0, .int .i64 0]) ?_ 9 _ rfl; (with_reducible repeat (first | refine blk_drewN ?_ _ | refine blk_drew ?_ | refine blk_alloc ?_ _)); refine blk_put (cs := #[.int .i64 4, .int .i64 31, .int .i64 2, .int .i64 0, .int .i64 0, .int .i64 0, .int .u64 0, .int .i64 0, .int .i64 0, .int .i64 0]) ?_ 8 _ rfl; (with_reducible repeat (first | refine blk_drewN ?_ _ | refine blk_drew ?_ | refine blk_alloc ?_ _)); refine blk_put (cs := #[.int .i64 4, .int .i64 31, .int .i64 2, .int .i64 0, .int .i64 0, .int .i64 0, .int .u64 0, .int .i64 0, .int .i64 0, .int .i64 0]) ?_ 7 _ rfl; (with_reducible repeat (first | refine blk_drewN ?_ _ | refine blk_drew ?_ | refine blk_alloc ?_ _)); refine blk_put (cs := #[.int .i64 4, .int .i64 31, .int .i64 2, .int .i64 0, .int .i64 0, .int .i64 0, .int .u64 0, .int .i64 0, .int .i64 0, .int .i64 0]) ?_ 6 _ rfl; (with_reducible repeat (first | refine blk_drewN ?_ _ | refine blk_drew ?_ | refine blk_alloc ?_ _)); refine blk_put (cs := #[.int .i64 4, .int .i64 31, .int .i64 2, .int .i64 0, .int .i64 0, .int .i64 0, .int .u64 0, .int .i64 0, .int .i64 0, .int .i64 0]) ?_ 5 _ rfl; (with_reducible repeat (first | refine blk_drewN ?_ _ | refine blk_drew ?_ | refine blk_alloc ?_ _)); refine blk_put (cs := #[.int .i64 4, .int .i64 31, .int .i64 2, .int .i64 0, .int .i64 0, .int .i64 0, .int .u64 0, .int .i64 0, .int .i64 0, .int .i64 0]) ?_ 4 _ rfl; (with_reducible repeat (first | refine blk_drewN ?_ _ | refine blk_drew ?_ | refine blk_alloc ?_ _)); refine blk_put (cs := #[.int .i64 4, .int .i64 31, .int .i64 2, .int .i64 0, .int .i64 0, .int .i64 0, .int .u64 0, .int .i64 0, .int .i64 0, .int .i64 0]) ?_ 3 _ rfl; (with_reducible repeat (first | refine blk_drewN ?_ _ | refine blk_drew ?_ | refine blk_alloc ?_ _)); refine blk_put (cs := #[.int .i64 4, .int .i64 31, .int .i64 0, .int .i64 0, .int .i64 0, .int .i64 0, .int .u64 0, .int .i64 0, .int .i64 0, .int .i64 0]) ?_ 2 _ rfl; (with_reducible repeat (first | refine blk_drewN ?_ _ | refine blk_drew ?_ | refine blk_alloc ?_ _)); refine blk_put (cs := #[.int .i64 4, .int .i64 0, .int .i64 0, .int .i64 0, .int .i64 0, .int .i64 0, .int .u64 0, .int .i64 0, .int .i64 0, .int .i64 0]) ?_ 1 _ rfl; (with_reducible repeat (first | refine blk_drewN ?_ _ | refine blk_drew ?_ | refine blk_alloc ?_ _)); refine blk_put (cs := #[.int .i64 0, .int .i64 0, .int .i64 0, .int .i64 0, .int .i64 0, .int .i64 0, .int .u64 0, .int .i64 0, .int .i64 0, .int .i64 0]) ?_ 0 _ rfl; (with_reducible repeat (first | refine blk_drewN ?_ _ | refine blk_drew ?_ | refine blk_alloc ?_ _)); exact BK225.out)) : gb226 ≠ gb225)); clear BK225; clear HB; have BK225 := n0_; have HB := n1_; have BK226 := n2_; have GW226 := n3_; have GE226 := n4_; have NB225_226 := n5_; have NB226_225 := n6_; clear n0_ n1_ n2_ n3_ n4_ n5_ n6_; clear hb hbox hg; have hnb28 := NB226_225.out; have hnc28 := NB225_226.out; obtain ⟨hcz29_0, hcz29_1, hcz29_2, hcz29_3, hcz29_4, hcz29_5, hcz29_6, hcz29_7, hcz29_8, hcz29_9⟩ := cells10_ BK226.out; have hfz29_0 := fun j => blk_frozen BK226.out j) | ((with_reducible refine gate_dst (N := 3) rfl ?_); (try (refine gate_guard (by rfl) ?_; dsimp only)); refine box_event ?hg (N := 3) ?hd (cs := #[.int .i64 0, .int .i64 0, .int .i64 0, .int .i64 0, .int .i64 0, .int .i64 0, .int .u64 0, .int .i64 0, .int .i64 0, .int .i64 0]) (t := 37) ?hr ?_; (case hd => rfl); (case hg => rfl); (case hr => first | (go_simp; done) | (go_simp; rfl)); intro gb227 hg w30 hbox hb; have n0_ := Aside0.mk (blk_below (g := gb225) (o := .cells #[.int .i64 4, .int .i64 31, .int .i64 2, .int .i64 0, .int .i64 0, .int .i64 0, .int .u64 0, .int .i64 0, .int .i64 0, .int .i64 0] 37 (0, 0)) (by (with_reducible repeat (first | refine blk_drewN ?_ _ | refine blk_drew ?_ | refine blk_alloc ?_ _)); refine blk_far ?_ NB225_226.out _; (with_reducible repeat (first | refine blk_drewN ?_ _ | refine blk_drew ?_ | refine blk_alloc ?_ _)); refine blk_far ?_ NB225_226.out _; (with_reducible repeat (first | refine blk_drewN ?_ _ | refine blk_drew ?_ | refine blk_alloc ?_ _)); refine blk_far ?_ NB225_226.out _; (with_reducible repeat (first | refine blk_drewN ?_ _ | refine blk_drew ?_ | refine blk_alloc ?_ _)); refine blk_far ?_ NB225_226.out _; (with_reducible repeat (first | refine blk_drewN ?_ _ | refine blk_drew ?_ | refine blk_alloc ?_ _)); refine blk_far ?_ NB225_226.out _; (with_reducible repeat (first | refine blk_drewN ?_ _ | refine blk_drew ?_ | refine blk_alloc ?_ _)); refine blk_far ?_ NB225_226.out _; (with_reducible repeat (first | refine blk_drewN ?_ _ | refine blk_drew ?_ | refine blk_alloc ?_ _)); refine blk_far ?_ NB225_226.out _; (with_reducible repeat (first | refine blk_drewN ?_ _ | refine blk_drew ?_ | refine blk_alloc ?_ _)); refine blk_far ?_ NB225_226.out _; (with_reducible repeat (first | refine blk_drewN ?_ _ | refine blk_drew ?_ | refine blk_alloc ?_ _)); refine blk_far ?_ NB225_226.out _; (with_reducible repeat (first | refine blk_drewN ?_ _ | refine blk_drew ?_ | refine blk_alloc ?_ _)); refine blk_far ?_ NB225_226.out _; (with_reducible repeat (first | refine blk_drewN ?_ _ | refine blk_drew ?_ | refine blk_alloc ?_ _)); exact BK225.out) hb); have n1_ := Aside0.mk (blk_below (g := gb226) (o := .cells #[.int .i64 12, .int .i64 31, .int .i64 2, .int .i64 2, .int .i64 0, .int .i64 0, .int .u64 0, .int .i64 0, .int .i64 0, .int .i64 0] 37 (0, 0)) (by (with_reducible repeat (first | refine blk_drewN ?_ _ | refine blk_drew ?_ | refine blk_alloc ?_ _)); refine blk_put (cs := #[.int .i64 12, .int .i64 31, .int .i64 2, .int .i64 2, .int .i64 0, .int .i64 0, .int .u64 0, .int .i64 0, .int .i64 0, .int .i64 0]) ?_ 9 _ rfl; (with_reducible repeat (first | refine blk_drewN ?_ _ | refine blk_drew ?_ | refine blk_alloc ?_ _)); refine blk_put (cs := #[.int .i64 12, .int .i64 31, .int .i64 2, .int .i64 2, .int .i64 0, .int .i64 0, .int .u64 0, .int .i64 0, .int .i64 0, .int .i64 0]) ?_ 8 _ rfl; (with_reducible repeat (first | refine blk_drewN ?_ _ | refine blk_drew ?_ | refine blk_alloc ?_ _)); refine blk_put (cs := #[.int .i64 12, .int .i64 31, .int .i64 2, .int .i64 2, .int .i64 0, .int .i64 0, .int .u64 0, .int .i64 0, .int .i64 0, .int .i64 0]) ?_ 7 _ rfl; (with_reducible repeat (first | refine blk_drewN ?_ _ | refine blk_drew ?_ | refine blk_alloc ?_ _)); refine blk_put (cs := #[.int .i64 12, .int .i64 31, .int .i64 2, .int .i64 2, .int .i64 0, .int .i64 0, .int .u64 0, .int .i64 0, .int .i64 0, .int .i64 0]) ?_ 6 _ rfl; (with_reducible repeat (first | refine blk_drewN ?_ _ | refine blk_drew ?_ | refine blk_alloc ?_ _)); refine blk_put (cs := #[.int .i64 12, .int .i64 31, .int .i64 2, .int .i64 2, .int .i64 0, .int .i64 0, .int .u64 0, .int .i64 0, .int .i64 0, .int .i64 0]) ?_ 5 _ rfl; (with_reducible repeat (first | refine blk_drewN ?_ _ | refine blk_drew ?_ | refine blk_alloc ?_ _)); refine blk_put (cs := #[.int .i64 12, .int .i64 31, .int .i64 2, .int .i64 2, .int .i64 0, .int .i64 0, .int .u64 0, .int .i64 0, .int .i64 0, .int .i64 0]) ?_ 4 _ rfl; (with_reducible repeat (first | refine blk_drewN ?_ _ | refine blk_drew ?_ | refine blk_alloc ?_ _)); refine blk_put (cs := #[.int .i64 12, .int .i64 31, .int .i64 2, .int .i64 0, .int .i64 0, .int .i64 0, .int .u64 0, .int .i64 0, .int .i64 0, .int .i64 0]) ?_ 3 _ rfl; (with_reducible repeat (first | refine blk_drewN ?_ _ | refine blk_drew ?_ | refine blk_alloc ?_ _)); refine blk_put (cs := #[.int .i64 12, .int .i64 31, .int .i64 0, .int .i64 0, .int .i64 0, .int .i64 0, .int .u64 0, .int .i64 0, .int .i64 0, .int .i64 0]) ?_ 2 _ rfl; (with_reducible repeat (first | refine blk_drewN ?_ _ | refine blk_drew ?_ | refine blk_alloc ?_ _)); refine blk_put (cs := #[.int .i64 12, .int .i64 0, .int .i64 0, .int .i64 0, .int .i64 0, .int .i64 0, .int .u64 0, .int .i64 0, .int .i64 0, .int .i64 0]) ?_ 1 _ rfl; (with_reducible repeat (first | refine blk_drewN ?_ _ | refine blk_drew ?_ | refine blk_alloc ?_ _)); refine blk_put (cs := #[.int .i64 0, .int .i64 0, .int .i64 0, .int .i64 0, .int .i64 0, .int .i64 0, .int .u64 0, .int .i64 0, .int .i64 0, .int .i64 0]) ?_ 0 _ rfl; (with_reducible repeat (first | refine blk_drewN ?_ _ | refine blk_drew ?_ | refine blk_alloc ?_ _)); exact BK226.out) hb); have n2_ := Aside0.mk (below_step (by repeat (first | (with_reducible first | exact HB.out | apply below_alloc | apply pw_below_drewN | apply below_drew1 | refine below_set ?_ GE225.out | refine below_set ?_ GE226.out) | exact HB.out)) hb); have n3_ := Aside0.mk (hbox); have n4_ := Aside0.mk ((by rw [hg]; exact (below_size (by repeat (first | (with_reducible first | exact HB.out | apply below_alloc | apply pw_below_drewN | apply below_drew1 | refine below_set ?_ GE225.out | refine below_set ?_ GE226.out) | exact HB.out))) : w.heap.size ≤ gb227)); have n5_ := Aside0.mk ((by rw [hg]; exact (below_size (by repeat (first | (with_reducible first | exact HB.out | apply below_alloc | apply pw_below_drewN | apply below_drew1 | refine below_set ?_ GE225.out | refine below_set ?_ GE226.out) | exact HB.out))) : w.heap.size ≤ gb227)); have n6_ := Aside0.mk ((by rw [hg]; exact Nat.ne_of_lt (blk_lt (g := gb225) (o := .cells #[.int .i64 4, .int .i64 31, .int .i64 2, .int .i64 0, .int .i64 0, .int .i64 0, .int .u64 0, .int .i64 0, .int .i64 0, .int .i64 0] 37 (0, 0)) (by (with_reducible repeat (first | refine blk_drewN ?_ _ | refine blk_drew ?_ | refine blk_alloc ?_ _)); refine blk_far ?_ NB225_226.out _; (with_reducible repeat (first | refine blk_drewN ?_ _ | refine blk_drew ?_ | refine blk_alloc ?_ _)); refine blk_far ?_ NB225_226.out _; (with_reducible repeat (first | refine blk_drewN ?_ _ | refine blk_drew ?_ | refine blk_alloc ?_ _)); refine blk_far ?_ NB225_226.out _; (with_reducible repeat (first | refine blk_drewN ?_ _ | refine blk_drew ?_ | refine blk_alloc ?_ _)); refine blk_far ?_ NB225_226.out _; (with_reducible repeat (first | refine blk_drewN ?_ _ | refine blk_drew ?_ | refine blk_alloc ?_ _)); refine blk_far ?_ NB225_226.out _; (with_reducible repeat (first | refine blk_drewN ?_ _ | refine blk_drew ?_ | refine blk_alloc ?_ _)); refine blk_far ?_ NB225_226.out _; (with_reducible repeat (first | refine blk_drewN ?_ _ | refine blk_drew ?_ | refine blk_alloc ?_ _)); refine blk_far ?_ NB225_226.out _; (with_reducible repeat (first | refine blk_drewN ?_ _ | refine blk_drew ?_ | refine blk_alloc ?_ _)); refine blk_far ?_ NB225_226.out _; (with_reducible repeat (first | refine blk_drewN ?_ _ | refine blk_drew ?_ | refine blk_alloc ?_ _)); refine blk_far ?_ NB225_226.out _; (with_reducible repeat (first | refine blk_drewN ?_ _ | refine blk_drew ?_ | refine blk_alloc ?_ _)); refine blk_far ?_ NB225_226.out _; (with_reducible repeat (first | refine blk_drewN ?_ _ | refine blk_drew ?_ | refine blk_alloc ?_ _)); exact BK225.out)) : gb225 ≠ gb227)); have n7_ := Aside0.mk ((by rw [hg]; exact Nat.ne_of_gt (blk_lt (g := gb225) (o := .cells #[.int .i64 4, .int .i64 31, .int .i64 2, .int .i64 0, .int .i64 0, .int .i64 0, .int .u64 0, .int .i64 0, .int .i64 0, .int .i64 0] 37 (0, 0)) (by (with_reducible repeat (first | refine blk_drewN ?_ _ | refine blk_drew ?_ | refine blk_alloc ?_ _)); refine blk_far ?_ NB225_226.out _; (with_reducible repeat (first | refine blk_drewN ?_ _ | refine blk_drew ?_ | refine blk_alloc ?_ _)); refine blk_far ?_ NB225_226.out _; (with_reducible repeat (first | refine blk_drewN ?_ _ | refine blk_drew ?_ | refine blk_alloc ?_ _)); refine blk_far ?_ NB225_226.out _; (with_reducible repeat (first | refine blk_drewN ?_ _ | refine blk_drew ?_ | refine blk_alloc ?_ _)); refine blk_far ?_ NB225_226.out _; (with_reducible repeat (first | refine blk_drewN ?_ _ | refine blk_drew ?_ | refine blk_alloc ?_ _)); refine blk_far ?_ NB225_226.out _; (with_reducible repeat (first | refine blk_drewN ?_ _ | refine blk_drew ?_ | refine blk_alloc ?_ _)); refine blk_far ?_ NB225_226.out _; (with_reducible repeat (first | refine blk_drewN ?_ _ | refine blk_drew ?_ | refine blk_alloc ?_ _)); refine blk_far ?_ NB225_226.out _; (with_reducible repeat (first | refine blk_drewN ?_ _ | refine blk_drew ?_ | refine blk_alloc ?_ _)); refine blk_far ?_ NB225_226.out _; (with_reducible repeat (first | refine blk_drewN ?_ _ | refine blk_drew ?_ | refine blk_alloc ?_ _)); refine blk_far ?_ NB225_226.out _; (with_reducible repeat (first | refine blk_drewN ?_ _ | refine blk_drew ?_ | refine blk_alloc ?_ _)); refine blk_far ?_ NB225_226.out _; (with_reducible repeat (first | refine blk_drewN ?_ _ | refine blk_drew ?_ | refine blk_alloc ?_ _)); exact BK225.out)) : gb227 ≠ gb225)); have n8_ := Aside0.mk ((by rw [hg]; exact Nat.ne_of_lt (blk_lt (g := gb226) (o := .cells #[.int .i64 12, .int .i64 31, .int .i64 2, .int .i64 2, .int .i64 0, .int .i64 0, .int .u64 0, .int .i64 0, .int .i64 0, .int .i64 0] 37 (0, 0)) (by (with_reducible repeat (first | refine blk_drewN ?_ _ | refine blk_drew ?_ | refine blk_alloc ?_ _)); refine blk_put (cs := #[.int .i64 12, .int .i64 31, .int .i64 2, .int .i64 2, .int .i64 0, .int .i64 0, .int .u64 0, .int .i64 0, .int .i64 0, .int .i64 0]) ?_ 9 _ rfl; (with_reducible repeat (first | refine blk_drewN ?_ _ | refine blk_drew ?_ | refine blk_alloc ?_ _)); refine blk_put (cs := #[.int .i64 12, .int .i64 31, .int .i64 2, .int .i64 2, .int .i64 0, .int .i64 0, .int .u64 0, .int .i64 0, .int .i64 0, .int .i64 0]) ?_ 8 _ rfl; (with_reducible repeat (first | refine blk_drewN ?_ _ | refine blk_drew ?_ | refine blk_alloc ?_ _)); refine blk_put (cs := #[.int .i64 12, .int .i64 31, .int .i64 2, .int .i64 2, .int .i64 0, .int .i64 0, .int .u64 0, .int .i64 0, .int .i64 0, .int .i64 0]) ?_ 7 _ rfl; (with_reducible repeat (first | refine blk_drewN ?_ _ | refine blk_drew ?_ | refine blk_alloc ?_ _)); refine blk_put (cs := #[.int .i64 12, .int .i64 31, .int .i64 2, .int .i64 2, .int .i64 0, .int .i64 0, .int .u64 0, .int .i64 0, .int .i64 0, .int .i64 0]) ?_ 6 _ rfl; (with_reducible repeat (first | refine blk_drewN ?_ _ | refine blk_drew ?_ | refine blk_alloc ?_ _)); refine blk_put (cs := #[.int .i64 12, .int .i64 31, .int .i64 2, .int .i64 2, .int .i64 0, .int .i64 0, .int .u64 0, .int .i64 0, .int .i64 0, .int .i64 0]) ?_ 5 _ rfl; (with_reducible repeat (first | refine blk_drewN ?_ _ | refine blk_drew ?_ | refine blk_alloc ?_ _)); refine blk_put (cs := #[.int .i64 12, .int .i64 31, .int .i64 2, .int .i64 2, .int .i64 0, .int .i64 0, .int .u64 0, .int .i64 0, .int .i64 0, .int .i64 0]) ?_ 4 _ rfl; (with_reducible repeat (first | refine blk_drewN ?_ _ | refine blk_drew ?_ | refine blk_alloc ?_ _)); refine blk_put (cs := #[.int .i64 12, .int .i64 31, .int .i64 2, .int .i64 0, .int .i64 0, .int .i64 0, .int .u64 0, .int .i64 0, .int .i64 0, .int .i64 0]) ?_ 3 _ rfl; (with_reducible repeat (first | refine blk_drewN ?_ _ | refine blk_drew ?_ | refine blk_alloc ?_ _)); refine blk_put (cs := #[.int .i64 12, .int .i64 31, .int .i64 0, .int .i64 0, .int .i64 0, .int .i64 0, .int .u64 0, .int .i64 0, .int .i64 0, .int .i64 0]) ?_ 2 _ rfl; (with_reducible repeat (first | refine blk_drewN ?_ _ | refine blk_drew ?_ | refine blk_alloc ?_ _)); refine blk_put (cs := #[.int .i64 12, .int .i64 0, .int .i64 0, .int .i64 0, .int .i64 0, .int .i64 0, .int .u64 0, .int .i64 0, .int .i64 0, .int .i64 0]) ?_ 1 _ rfl; (with_reducible repeat (first | refine blk_drewN ?_ _ | refine blk_drew ?_ | refine blk_alloc ?_ _)); refine blk_put (cs := #[.int .i64 0, .int .i64 0, .int .i64 0, .int .i64 0, .int .i64 0, .int .i64 0, .int .u64 0, .int .i64 0, .int .i64 0, .int .i64 0]) ?_ 0 _ rfl; (with_reducible repeat (first | refine blk_drewN ?_ _ | refine blk_drew ?_ | refine blk_alloc ?_ _)); exact BK226.out)) : gb226 ≠ gb227)); have n9_ := Aside0.mk ((by rw [hg]; exact Nat.ne_of_gt (blk_lt (g := gb226) (o := .cells #[.int .i64 12, .int .i64 31, .int .i64 2, .int .i64 2, .int .i64 0, .int .i64 0, .int .u64 0, .int .i64 0, .int .i64 0, .int .i64 0] 37 (0, 0)) (by (with_reducible repeat (first | refine blk_drewN ?_ _ | refine blk_drew ?_ | refine blk_alloc ?_ _)); refine blk_put (cs := #[.int .i64 12, .int .i64 31, .int .i64 2, .int .i64 2, .int .i64 0, .int .i64 0, .int .u64 0, .int .i64 0, .int .i64 0, .int .i64 0]) ?_ 9 _ rfl; (with_reducible repeat (first | refine blk_drewN ?_ _ | refine blk_drew ?_ | refine blk_alloc ?_ _)); refine blk_put (cs := #[.int .i64 12, .int .i64 31, .int .i64 2, .int .i64 2, .int .i64 0, .int .i64 0, .int .u64 0, .int .i64 0, .int .i64 0, .int .i64 0]) ?_ 8 _ rfl; (with_reducible repeat (first | refine blk_drewN ?_ _ | refine blk_drew ?_ | refine blk_alloc ?_ _)); refine blk_put (cs := #[.int .i64 12, .int .i64 31, .int .i64 2, .int .i64 2, .int .i64 0, .int .i64 0, .int .u64 0, .int .i64 0, .int .i64 0, .int .i64 0]) ?_ 7 _ rfl; (with_reducible repeat (first | refine blk_drewN ?_ _ | refine blk_drew ?_ | refine blk_alloc ?_ _)); refine blk_put (cs := #[.int .i64 12, .int .i64 31, .int .i64 2, .int .i64 2, .int .i64 0, .int .i64 0, .int .u64 0, .int .i64 0, .int .i64 0, .int .i64 0]) ?_ 6 _ rfl; (with_reducible repeat (first | refine blk_drewN ?_ _ | refine blk_drew ?_ | refine blk_alloc ?_ _)); refine blk_put (cs := #[.int .i64 12, .int .i64 31, .int .i64 2, .int .i64 2, .int .i64 0, .int .i64 0, .int .u64 0, .int .i64 0, .int .i64 0, .int .i64 0]) ?_ 5 _ rfl; (with_reducible repeat (first | refine blk_drewN ?_ _ | refine blk_drew ?_ | refine blk_alloc ?_ _)); refine blk_put (cs := #[.int .i64 12, .int .i64 31, .int .i64 2, .int .i64 2, .int .i64 0, .int .i64 0, .int .u64 0, .int .i64 0, .int .i64 0, .int .i64 0]) ?_ 4 _ rfl; (with_reducible repeat (first | refine blk_drewN ?_ _ | refine blk_drew ?_ | refine blk_alloc ?_ _)); refine blk_put (cs := #[.int .i64 12, .int .i64 31, .int .i64 2, .int .i64 0, .int .i64 0, .int .i64 0, .int .u64 0, .int .i64 0, .int .i64 0, .int .i64 0]) ?_ 3 _ rfl; (with_reducible repeat (first | refine blk_drewN ?_ _ | refine blk_drew ?_ | refine blk_alloc ?_ _)); refine blk_put (cs := #[.int .i64 12, .int .i64 31, .int .i64 0, .int .i64 0, .int .i64 0, .int .i64 0, .int .u64 0, .int .i64 0, .int .i64 0, .int .i64 0]) ?_ 2 _ rfl; (with_reducible repeat (first | refine blk_drewN ?_ _ | refine blk_drew ?_ | refine blk_alloc ?_ _)); refine blk_put (cs := #[.int .i64 12, .int .i64 0, .int .i64 0, .int .i64 0, .int .i64 0, .int .i64 0, .int .u64 0, .int .i64 0, .int .i64 0, .int .i64 0]) ?_ 1 _ rfl; (with_reducible repeat (first | refine blk_drewN ?_ _ | refine blk_drew ?_ | refine blk_alloc ?_ _)); refine blk_put (cs := #[.int .i64 0, .int .i64 0, .int .i64 0, .int .i64 0, .int .i64 0, .int .i64 0, .int .u64 0, .int .i64 0, .int .i64 0, .int .i64 0]) ?_ 0 _ rfl; (with_reducible repeat (first | refine blk_drewN ?_ _ | refine blk_drew ?_ | refine blk_alloc ?_ _)); exact BK226.out)) : gb227 ≠ gb226)); clear BK225; clear BK226; clear HB; have BK225 := n0_; have BK226 := n1_; have HB := n2_; have BK227 := n3_; have GW227 := n4_; have GE227 := n5_; have NB225_227 := n6_; have NB227_225 := n7_; have NB226_227 := n8_; have NB227_226 := n9_; clear n0_ n1_ n2_ n3_ n4_ n5_ n6_ n7_ n8_ n9_; clear hb hbox hg; have hnb31 := NB227_225.out; have hnc31 := NB225_227.out; have hnb32 := NB227_226.out; have hnc32 := NB226_227.out; obtain ⟨hcz33_0, hcz33_1, hcz33_2, hcz33_3, hcz33_4, hcz33_5, hcz33_6, hcz33_7, hcz33_8, hcz33_9⟩ := cells10_ BK227.out; have hfz33_0 := fun j => blk_frozen BK227.out j; obtain ⟨hcz34_0, hcz34_1, hcz34_2, hcz34_3, hcz34_4, hcz34_5, hcz34_6, hcz34_7, hcz34_8, hcz34_9⟩ := cells10_ BK225.out; have hfz34_0 := fun j => blk_frozen BK225.out j) | ((with_reducible refine gate_callee (f := 27) rfl ?_); refine goesL_ (some 17) rfl rfl Tryd.func27 (by kernel_rfl) rfl #[.agg #[.int .i64 4, .int .i64 31, .int .i64 2, .int .i64 0, .int .i64 0, .int .i64 0, .int .u64 0, .int .i64 0, .int .i64 0, .int .i64 0]] rfl (by (try simp only [List.map_toArray, List.map_cons, List.map_nil]); first | done | rfl | (simp only [List.length_drop, List.length_take]; rfl)) ?_; (with_reducible refine (inst_Writes.calls k 4 31 2 0 0 0 0 0 0 0 t228 true _ A1.out).mono ?_); rintro e w35 ⟨rfl, hb⟩; refine ⟨_, rfl, ?_⟩; have n0_ := Aside0.mk (blk_below (g := gb225) (o := .cells #[.int .i64 4, .int .i64 31, .int .i64 2, .int .i64 0, .int .i64 0, .int .i64 0, .int .u64 0, .int .i64 0, .int .i64 0, .int .i64 0] 37 (0, 0)) (by (with_reducible repeat (first | refine blk_drewN ?_ _ | refine blk_drew ?_ | refine blk_alloc ?_ _)); refine blk_far ?_ NB225_227.out _; (with_reducible repeat (first | refine blk_drewN ?_ _ | refine blk_drew ?_ | refine blk_alloc ?_ _)); refine blk_far ?_ NB225_227.out _; (with_reducible repeat (first | refine blk_drewN ?_ _ | refine blk_drew ?_ | refine blk_alloc ?_ _)); refine blk_far ?_ NB225_227.out _; (with_reducible repeat (first | refine blk_drewN ?_ _ | refine blk_drew ?_ | refine blk_alloc ?_ _)); refine blk_far ?_ NB225_227.out _; (with_reducible repeat (first | refine blk_drewN ?_ _ | refine blk_drew ?_ | refine blk_alloc ?_ _)); refine blk_far ?_ NB225_227.out _; (with_reducible repeat (first | refine blk_drewN ?_ _ | refine blk_drew ?_ | refine blk_alloc ?_ _)); refine blk_far ?_ NB225_227.out _; (with_reducible repeat (first | refine blk_drewN ?_ _ | refine blk_drew ?_ | refine blk_alloc ?_ _)); refine blk_far ?_ NB225_227.out _; (with_reducible repeat (first | refine blk_drewN ?_ _ | refine blk_drew ?_ | refine blk_alloc ?_ _)); refine blk_far ?_ NB225_227.out _; (with_reducible repeat (first | refine blk_drewN ?_ _ | refine blk_drew ?_ | refine blk_alloc ?_ _)); refine blk_far ?_ NB225_227.out _; (with_reducible repeat (first | refine blk_drewN ?_ _ | refine blk_drew ?_ | refine blk_alloc ?_ _)); refine blk_far ?_ NB225_227.out _; (with_reducible repeat (first | refine blk_drewN ?_ _ | refine blk_drew ?_ | refine blk_alloc ?_ _)); exact BK225.out) hb); have n1_ := Aside0.mk (blk_below (g := gb226) (o := .cells #[.int .i64 12, .int .i64 31, .int .i64 2, .int .i64 2, .int .i64 0, .int .i64 0, .int .u64 0, .int .i64 0, .int .i64 0, .int .i64 0] 37 (0, 0)) (by (with_reducible repeat (first | refine blk_drewN ?_ _ | refine blk_drew ?_ | refine blk_alloc ?_ _)); refine blk_far ?_ NB226_227.out _; (with_reducible repeat (first | refine blk_drewN ?_ _ | refine blk_drew ?_ | refine blk_alloc ?_ _)); refine blk_far ?_ NB226_227.out _; (with_reducible repeat (first | refine blk_drewN ?_ _ | refine blk_drew ?_ | refine blk_alloc ?_ _)); refine blk_far ?_ NB226_227.out _; (with_reducible repeat (first | refine blk_drewN ?_ _ | refine blk_drew ?_ | refine blk_alloc ?_ _)); refine blk_far ?_ NB226_227.out _; (with_reducible repeat (first | refine blk_drewN ?_ _ | refine blk_drew ?_ | refine blk_alloc ?_ _)); refine blk_far ?_ NB226_227.out _; (with_reducible repeat (first | refine blk_drewN ?_ _ | refine blk_drew ?_ | refine blk_alloc ?_ _)); refine blk_far ?_ NB226_227.out _; (with_reducible repeat (first | refine blk_drewN ?_ _ | refine blk_drew ?_ | refine blk_alloc ?_ _)); refine blk_far ?_ NB226_227.out _; (with_reducible repeat (first | refine blk_drewN ?_ _ | refine blk_drew ?_ | refine blk_alloc ?_ _)); refine blk_far ?_ NB226_227.out _; (with_reducible repeat (first | refine blk_drewN ?_ _ | refine blk_drew ?_ | refine blk_alloc ?_ _)); refine blk_far ?_ NB226_227.out _; (with_reducible repeat (first | refine blk_drewN ?_ _ | refine blk_drew ?_ | refine blk_alloc ?_ _)); refine blk_far ?_ NB226_227.out _; (with_reducible repeat (first | refine blk_drewN ?_ _ | refine blk_drew ?_ | refine blk_alloc ?_ _)); exact BK226.out) hb); have n2_ := Aside0.mk (blk_below (g := gb227) (o := .cells #[.int .i64 25, .int .i64 1, .int .i64 31, .int .i64 0, .int .i64 0, .int .i64 0, .int .u64 0, .int .i64 0, .int .i64 0, .int .i64 0] 37 (0, 0)) (by (with_reducible repeat (first | refine blk_drewN ?_ _ | refine blk_drew ?_ | refine blk_alloc ?_ _)); refine blk_put (cs := #[.int .i64 25, .int .i64 1, .int .i64 31, .int .i64 0, .int .i64 0, .int .i64 0, .int .u64 0, .int .i64 0, .int .i64 0, .int .i64 0]) ?_ 9 _ rfl; (with_reducible repeat (first | refine blk_drewN ?_ _ | refine blk_drew ?_ | refine blk_alloc ?_ _)); refine blk_put (cs := #[.int .i64 25, .int .i64 1, .int .i64 31, .int .i64 0, .int .i64 0, .int .i64 0, .int .u64 0, .int .i64 0, .int .i64 0, .int .i64 0]) ?_ 8 _ rfl; (with_reducible repeat (first | refine blk_drewN ?_ _ | refine blk_drew ?_ | refine blk_alloc ?_ _)); refine blk_put (cs := #[.int .i64 25, .int .i64 1, .int .i64 31, .int .i64 0, .int .i64 0, .int .i64 0, .int .u64 0, .int .i64 0, .int .i64 0, .int .i64 0]) ?_ 7 _ rfl; (with_reducible repeat (first | refine blk_drewN ?_ _ | refine blk_drew ?_ | refine blk_alloc ?_ _)); refine blk_put (cs := #[.int .i64 25, .int .i64 1, .int .i64 31, .int .i64 0, .int .i64 0, .int .i64 0, .int .u64 0, .int .i64 0, .int .i64 0, .int .i64 0]) ?_ 6 _ rfl; (with_reducible repeat (first | refine blk_drewN ?_ _ | refine blk_drew ?_ | refine blk_alloc ?_ _)); refine blk_put (cs := #[.int .i64 25, .int .i64 1, .int .i64 31, .int .i64 0, .int .i64 0, .int .i64 0, .int .u64 0, .int .i64 0, .int .i64 0, .int .i64 0]) ?_ 5 _ rfl; (with_reducible repeat (first | refine blk_drewN ?_ _ | refine blk_drew ?_ | refine blk_alloc ?_ _)); refine blk_put (cs := #[.int .i64 25, .int .i64 1, .int .i64 31, .int .i64 0, .int .i64 0, .int .i64 0, .int .u64 0, .int .i64 0, .int .i64 0, .int .i64 0]) ?_ 4 _ rfl; (with_reducible repeat (first | refine blk_drewN ?_ _ | refine blk_drew ?_ | refine blk_alloc ?_ _)); refine blk_put (cs := #[.int .i64 25, .int .i64 1, .int .i64 31, .int .i64 0, .int .i64 0, .int .i64 0, .int .u64 0, .int .i64 0, .int .i64 0, .int .i64 0]) ?_ 3 _ rfl; (with_reducible repeat (first | refine blk_drewN ?_ _ | refine blk_drew ?_ | refine blk_alloc ?_ _)); refine blk_put (cs := #[.int .i64 25, .int .i64 1, .int .i64 0, .int .i64 0, .int .i64 0, .int .i64 0, .int .u64 0, .int .i64 0, .int .i64 0, .int .i64 0]) ?_ 2 _ rfl; (with_reducible repeat (first | refine blk_drewN ?_ _ | refine blk_drew ?_ | refine blk_alloc ?_ _)); refine blk_put (cs := #[.int .i64 25, .int .i64 0, .int .i64 0, .int .i64 0, .int .i64 0, .int .i64 0, .int .u64 0, .int .i64 0, .int .i64 0, .int .i64 0]) ?_ 1 _ rfl; (with_reducible repeat (first | refine blk_drewN ?_ _ | refine blk_drew ?_ | refine blk_alloc ?_ _)); refine blk_put (cs := #[.int .i64 0, .int .i64 0, .int .i64 0, .int .i64 0, .int .i64 0, .int .i64 0, .int .u64 0, .int .i64 0, .int .i64 0, .int .i64 0]) ?_ 0 _ rfl; (with_reducible repeat (first | refine blk_drewN ?_ _ | refine blk_drew ?_ | refine blk_alloc ?_ _)); exact BK227.out) hb); have n3_ := Aside0.mk (below_step (by repeat (first | (with_reducible first | exact HB.out | apply below_alloc | apply pw_below_drewN | apply below_drew1 | refine below_set ?_ GE225.out | refine below_set ?_ GE226.out | refine below_set ?_ GE227.out) | exact HB.out)) hb); clear BK225; clear BK226; clear BK227; clear HB; have BK225 := n0_; have BK226 := n1_; have BK227 := n2_; have HB := n3_; clear n0_ n1_ n2_ n3_; (try clear hb); (try clear hb2); (try clear hk); (try clear hi); obtain ⟨hcz36_0, hcz36_1, hcz36_2, hcz36_3, hcz36_4, hcz36_5, hcz36_6, hcz36_7, hcz36_8, hcz36_9⟩ := cells10_ BK226.out; have hfz36_0 := fun j => blk_frozen BK226.out j) | ((with_reducible refine gate_callee (f := 27) rfl ?_); refine goesL_ (some 22) rfl rfl Tryd.func27 (by kernel_rfl) rfl #[.agg #[.int .i64 12, .int .i64 31, .int .i64 2, .int .i64 2, .int .i64 0, .int .i64 0, .int .u64 0, .int .i64 0, .int .i64 0, .int .i64 0]] rfl (by (try simp only [List.map_toArray, List.map_cons, List.map_nil]); first | done | rfl | (simp only [List.length_drop, List.length_take]; rfl)) ?_; (with_reducible refine (inst_Writes.calls k 12 31 2 2 0 0 0 0 0 0 t230 false _ A2.out).mono ?_); rintro e w37 ⟨rfl, hb⟩; refine ⟨_, rfl, ?_⟩; have n0_ := Aside0.mk (blk_below (g := gb225) (o := .cells #[.int .i64 4, .int .i64 31, .int .i64 2, .int .i64 0, .int .i64 0, .int .i64 0, .int .u64 0, .int .i64 0, .int .i64 0, .int .i64 0] 37 (0, 0)) (by (with_reducible repeat (first | refine blk_drewN ?_ _ | refine blk_drew ?_ | refine blk_alloc ?_ _)); exact BK225.out) hb); have n1_ := Aside0.mk (blk_below (g := gb226) (o := .cells #[.int .i64 12, .int .i64 31, .int .i64 2, .int .i64 2, .int .i64 0, .int .i64 0, .int .u64 0, .int .i64 0, .int .i64 0, .int .i64 0] 37 (0, 0)) (by (with_reducible repeat (first | refine blk_drewN ?_ _ | refine blk_drew ?_ | refine blk_alloc ?_ _)); exact BK226.out) hb); have n2_ := Aside0.mk (blk_below (g := gb227) (o := .cells #[.int .i64 25, .int .i64 1, .int .i64 31, .int .i64 0, .int .i64 0, .int .i64 0, .int .u64 0, .int .i64 0, .int .i64 0, .int .i64 0] 37 (0, 0)) (by (with_reducible repeat (first | refine blk_drewN ?_ _ | refine blk_drew ?_ | refine blk_alloc ?_ _)); exact BK227.out) hb); have n3_ := Aside0.mk (below_step (by repeat (first | (with_reducible first | exact HB.out | apply below_alloc | apply pw_below_drewN | apply below_drew1 | refine below_set ?_ GE225.out | refine below_set ?_ GE226.out | refine below_set ?_ GE227.out) | exact HB.out)) hb); clear BK225; clear BK226; clear BK227; clear HB; have BK225 := n0_; have BK226 := n1_; have BK227 := n2_; have HB := n3_; clear n0_ n1_ n2_ n3_; (try clear hb); (try clear hb2); (try clear hk); (try clear hi); obtain ⟨hcz38_0, hcz38_1, hcz38_2, hcz38_3, hcz38_4, hcz38_5, hcz38_6, hcz38_7, hcz38_8, hcz38_9⟩ := cells10_ BK227.out; have hfz38_0 := fun j => blk_frozen BK227.out j) | ((with_reducible refine gate_callee (f := 27) rfl ?_); refine goesL_ (some 27) rfl rfl Tryd.func27 (by kernel_rfl) rfl #[.agg #[.int .i64 25, .int .i64 1, .int .i64 31, .int .i64 0, .int .i64 0, .int .i64 0, .int .u64 0, .int .i64 0, .int .i64 0, .int .i64 0]] rfl (by (try simp only [List.map_toArray, List.map_cons, List.map_nil]); first | done | rfl | (simp only [List.length_drop, List.length_take]; rfl)) ?_; (with_reducible refine (inst_Writes.calls k 25 1 31 0 0 0 0 0 0 0 t232 false _ A3.out).mono ?_); rintro e w39 ⟨rfl, hb⟩; refine ⟨_, rfl, ?_⟩; have n0_ := Aside0.mk (blk_below (g := gb225) (o := .cells #[.int .i64 4, .int .i64 31, .int .i64 2, .int .i64 0, .int .i64 0, .int .i64 0, .int .u64 0, .int .i64 0, .int .i64 0, .int .i64 0] 37 (0, 0)) (by (with_reducible repeat (first | refine blk_drewN ?_ _ | refine blk_drew ?_ | refine blk_alloc ?_ _)); exact BK225.out) hb); have n1_ := Aside0.mk (blk_below (g := gb226) (o := .cells #[.int .i64 12, .int .i64 31, .int .i64 2, .int .i64 2, .int .i64 0, .int .i64 0, .int .u64 0, .int .i64 0, .int .i64 0, .int .i64 0] 37 (0, 0)) (by (with_reducible repeat (first | refine blk_drewN ?_ _ | refine blk_drew ?_ | refine blk_alloc ?_ _)); exact BK226.out) hb); have n2_ := Aside0.mk (blk_below (g := gb227) (o := .cells #[.int .i64 25, .int .i64 1, .int .i64 31, .int .i64 0, .int .i64 0, .int .i64 0, .int .u64 0, .int .i64 0, .int .i64 0, .int .i64 0] 37 (0, 0)) (by (with_reducible repeat (first | refine blk_drewN ?_ _ | refine blk_drew ?_ | refine blk_alloc ?_ _)); exact BK227.out) hb); have n3_ := Aside0.mk (below_step (by repeat (first | (with_reducible first | exact HB.out | apply below_alloc | apply pw_below_drewN | apply below_drew1 | refine below_set ?_ GE225.out | refine below_set ?_ GE226.out | refine below_set ?_ GE227.out) | exact HB.out)) hb); clear BK225; clear BK226; clear BK227; clear HB; have BK225 := n0_; have BK226 := n1_; have BK227 := n2_; have HB := n3_; clear n0_ n1_ n2_ n3_; (try clear hb); (try clear hb2); (try clear hk); (try clear hi)) | ((with_reducible refine gate_callee (f := 38) rfl ?_); refine goesL_ (some 31) rfl rfl Tryd.func38 (by kernel_rfl) rfl #[.int .i64 39] rfl (by (try simp only [List.map_toArray, List.map_cons, List.map_nil]); first | done | rfl | (simp only [List.length_drop, List.length_take]; rfl)) ?_; (with_reducible refine (inst_Name.calls 39 t234 t235 _ A4.out).mono ?_); rintro e w40 ⟨rfl, hb⟩; refine ⟨_, rfl, ?_⟩; have n0_ := Aside0.mk (blk_below (g := gb225) (o := .cells #[.int .i64 4, .int .i64 31, .int .i64 2, .int .i64 0, .int .i64 0, .int .i64 0, .int .u64 0, .int .i64 0, .int .i64 0, .int .i64 0] 37 (0, 0)) (by (with_reducible repeat (first | refine blk_drewN ?_ _ | refine blk_drew ?_ | refine blk_alloc ?_ _)); exact BK225.out) hb); have n1_ := Aside0.mk (blk_below (g := gb226) (o := .cells #[.int .i64 12, .int .i64 31, .int .i64 2, .int .i64 2, .int .i64 0, .int .i64 0, .int .u64 0, .int .i64 0, .int .i64 0, .int .i64 0] 37 (0, 0)) (by (with_reducible repeat (first | refine blk_drewN ?_ _ | refine blk_drew ?_ | refine blk_alloc ?_ _)); exact BK226.out) hb); have n2_ := Aside0.mk (blk_below (g := gb227) (o := .cells #[.int .i64 25, .int .i64 1, .int .i64 31, .int .i64 0, .int .i64 0, .int .i64 0, .int .u64 0, .int .i64 0, .int .i64 0, .int .i64 0] 37 (0, 0)) (by (with_reducible repeat (first | refine blk_drewN ?_ _ | refine blk_drew ?_ | refine blk_alloc ?_ _)); exact BK227.out) hb); have n3_ := Aside0.mk (below_step (by repeat (first | (with_reducible first | exact HB.out | apply below_alloc | apply pw_below_drewN | apply below_drew1 | refine below_set ?_ GE225.out | refine below_set ?_ GE226.out | refine below_set ?_ GE227.out) | exact HB.out)) hb); clear BK225; clear BK226; clear BK227; clear HB; have BK225 := n0_; have BK226 := n1_; have BK227 := n2_; have HB := n3_; clear n0_ n1_ n2_ n3_; (try clear hb); (try clear hb2); (try clear hk); (try clear hi); obtain ⟨hcz41_0, hcz41_1, hcz41_2, hcz41_3, hcz41_4, hcz41_5, hcz41_6, hcz41_7, hcz41_8, hcz41_9⟩ := cells10_ BK225.out; have hfz41_0 := fun j => blk_frozen BK225.out j) | ((with_reducible refine gate_callee (f := 33) rfl ?_); refine goesL_ (some 35) rfl rfl Tryd.func33 (by kernel_rfl) rfl #[.agg #[.int .i64 4, .int .i64 31, .int .i64 2, .int .i64 0, .int .i64 0, .int .i64 0, .int .u64 0, .int .i64 0, .int .i64 0, .int .i64 0]] rfl (by (try simp only [List.map_toArray, List.map_cons, List.map_nil]); first | done | rfl | (simp only [List.length_drop, List.length_take]; rfl)) ?_; (with_reducible refine (inst_Reads.calls k 4 31 2 0 0 0 0 0 0 0 t236 _ A5.out).mono ?_); rintro e w42 ⟨v237, rfl, ho0, hb⟩; refine ⟨_, rfl, ?_⟩; have n0_ := Aside0.mk (Kd.R_lower ho0 (below_size (by repeat (first | (with_reducible first | exact HB.out | apply below_alloc | apply pw_below_drewN | apply below_drew1 | refine below_set ?_ GE225.out | refine below_set ?_ GE226.out | refine below_set ?_ GE227.out) | exact HB.out)))); have n1_ := Aside0.mk (blk_below (g := gb225) (o := .cells #[.int .i64 4, .int .i64 31, .int .i64 2, .int .i64 0, .int .i64 0, .int .i64 0, .int .u64 0, .int .i64 0, .int .i64 0, .int .i64 0] 37 (0, 0)) (by (with_reducible repeat (first | refine blk_drewN ?_ _ | refine blk_drew ?_ | refine blk_alloc ?_ _)); exact BK225.out) hb); have n2_ := Aside0.mk (blk_below (g := gb226) (o := .cells #[.int .i64 12, .int .i64 31, .int .i64 2, .int .i64 2, .int .i64 0, .int .i64 0, .int .u64 0, .int .i64 0, .int .i64 0, .int .i64 0] 37 (0, 0)) (by (with_reducible repeat (first | refine blk_drewN ?_ _ | refine blk_drew ?_ | refine blk_alloc ?_ _)); exact BK226.out) hb); have n3_ := Aside0.mk (blk_below (g := gb227) (o := .cells #[.int .i64 25, .int .i64 1, .int .i64 31, .int .i64 0, .int .i64 0, .int .i64 0, .int .u64 0, .int .i64 0, .int .i64 0, .int .i64 0] 37 (0, 0)) (by (with_reducible repeat (first | refine blk_drewN ?_ _ | refine blk_drew ?_ | refine blk_alloc ?_ _)); exact BK227.out) hb); have n4_ := Aside0.mk (below_step (by repeat (first | (with_reducible first | exact HB.out | apply below_alloc | apply pw_below_drewN | apply below_drew1 | refine below_set ?_ GE225.out | refine below_set ?_ GE226.out | refine below_set ?_ GE227.out) | exact HB.out)) hb); clear BK225; clear BK226; clear BK227; clear HB; have HO238 := n0_; have BK225 := n1_; have BK226 := n2_; have BK227 := n3_; have HB := n4_; clear n0_ n1_ n2_ n3_ n4_; (try clear hb); (try clear hb2); (try clear hk); (try clear hi); (try clear ho0)) | ((with_reducible refine gate_dst (N := 36) rfl ?_); (try (refine gate_guard (by rfl) ?_; dsimp only)); refine Kd.R_lit (Kd.int .i64) _ 3 ?hg (N := 36) ?hd (xs := ([2] : List Int)) (inner := [.int .i64 2]) (ok := fun _ => True) (okp := fun _ => True) ?hr ?hp (fun _ hk => hk) trivial (Below.refl _ _) (Nat.le_refl _) (by simp) ?_; (case hd => rfl); (case hg => rfl); (case hr => first | (go_simp; done) | (go_simp; rfl)); (case hp => exact (Reps.one (show Kd.M (Kd.int .i64) _ _ _ 2 [.int .i64 2] from rfl) (Reps.none _ _))); intro v240 w43 ho44 hb hg_ hnew_; clear hg_ hnew_; (first | rw [← Ny239.out] at ho44 | (simp only [Int.reduceToNat] at ho44; rw [← Ny239.out] at ho44)); have n0_ := Aside0.mk (Kd.R_elder' (by (with_reducible repeat (first | apply Kd.R_alloc | apply Kd.R_drewN | apply Kd.R_drew)); exact HO238.out) (Kd.R_base ho44) hb); have n1_ := Aside0.mk (Kd.R_lower (Kd.R_new' ho44 (Kd.R_lt (by (with_reducible repeat (first | apply Kd.R_alloc | apply Kd.R_drewN | apply Kd.R_drew)); exact HO238.out))) (below_size (by repeat (first | (with_reducible first | exact HB.out | apply below_alloc | apply pw_below_drewN | apply below_drew1 | refine below_set ?_ GE225.out | refine below_set ?_ GE226.out | refine below_set ?_ GE227.out) | exact HB.out)))); have n2_ := Aside0.mk (blk_below (g := gb225) (o := .cells #[.int .i64 4, .int .i64 31, .int .i64 2, .int .i64 0, .int .i64 0, .int .i64 0, .int .u64 0, .int .i64 0, .int .i64 0, .int .i64 0] 37 (0, 0)) (by (with_reducible repeat (first | refine blk_drewN ?_ _ | refine blk_drew ?_ | refine blk_alloc ?_ _)); exact BK225.out) hb); have n3_ := Aside0.mk (blk_below (g := gb226) (o := .cells #[.int .i64 12, .int .i64 31, .int .i64 2, .int .i64 2, .int .i64 0, .int .i64 0, .int .u64 0, .int .i64 0, .int .i64 0, .int .i64 0] 37 (0, 0)) (by (with_reducible repeat (first | refine blk_drewN ?_ _ | refine blk_drew ?_ | refine blk_alloc ?_ _)); exact BK226.out) hb); have n4_ := Aside0.mk (blk_below (g := gb227) (o := .cells #[.int .i64 25, .int .i64 1, .int .i64 31, .int .i64 0, .int .i64 0, .int .i64 0, .int .u64 0, .int .i64 0, .int .i64 0, .int .i64 0] 37 (0, 0)) (by (with_reducible repeat (first | refine blk_drewN ?_ _ | refine blk_drew ?_ | refine blk_alloc ?_ _)); exact BK227.out) hb); have n5_ := Aside0.mk (below_step (by repeat (first | (with_reducible first | exact HB.out | apply below_alloc | apply pw_below_drewN | apply below_drew1 | refine below_set ?_ GE225.out | refine below_set ?_ GE226.out | refine below_set ?_ GE227.out) | exact HB.out)) hb); clear HO238; clear BK225; clear BK226; clear BK227; clear HB; have HO238 := n0_; have HO241 := n1_; have BK225 := n2_; have BK226 := n3_; have BK227 := n4_; have HB := n5_; clear n0_ n1_ n2_ n3_ n4_ n5_; clear hb ho44; obtain ⟨Ao45, co45, eo45⟩ := Kd.R_slice HO238.out; subst eo45; obtain ⟨Ao46, co46, eo46⟩ := Kd.R_slice HO241.out; subst eo46) | ((with_reducible refine gate_callee (f := 32) rfl ?_); refine goesL_ (some 37) rfl rfl Tryd.func32 (by kernel_rfl) rfl #[.slice Ao45 t236.length co45, .slice Ao46 y239.length co46] rfl (by (try simp only [List.map_toArray, List.map_cons, List.map_nil]); first | done | rfl | (simp only [List.length_drop, List.length_take]; rfl)) ?_; (with_reducible refine (cleatref04_Same.calls k _ _ t236 _ _ y239 true _ ?side1 ?side2 ?side3 ?side4 A6.out).mono ?_); (case side1 => repeat (first | exact (Kd.R_reads' HO238.out).2.2 | (with_reducible refine Kd.C_alloc ?_ _) | (with_reducible refine Kd.C_drewN ?_ _) | (with_reducible refine Kd.C_drew ?_))); (case side2 => exact (Kd.R_reads' HO238.out).2.1); (case side3 => repeat (first | exact (Kd.R_reads' HO241.out).2.2 | (with_reducible refine Kd.C_alloc ?_ _) | (with_reducible refine Kd.C_drewN ?_ _) | (with_reducible refine Kd.C_drew ?_))); (case side4 => exact (Kd.R_reads' HO241.out).2.1); rintro e w' ⟨rfl, ⟨nd, rfl⟩⟩; refine ⟨_, rfl, ?_⟩; obtain ⟨hcz47_0, hcz47_1, hcz47_2, hcz47_3, hcz47_4, hcz47_5, hcz47_6, hcz47_7, hcz47_8, hcz47_9⟩ := cells10_ BK226.out; have hfz47_0 := fun j => blk_frozen BK226.out j) | (go_at_call 33; (with_reducible refine (inst_Reads.calls k 12 31 2 2 0 0 0 0 0 0 t243 _ A10.out).mono ?_); rintro e w48 ⟨v244, rfl, ho0, hb⟩; have n0_ := Aside0.mk (Kd.R_elder' (by (with_reducible repeat (first | apply Kd.R_alloc | apply Kd.R_drewN | apply Kd.R_drew)); exact HO238.out) (Kd.R_base ho0) hb); have n1_ := Aside0.mk (Kd.R_elder' (by (with_reducible repeat (first | apply Kd.R_alloc | apply Kd.R_drewN | apply Kd.R_drew)); exact HO241.out) (Kd.R_base ho0) hb); have n2_ := Aside0.mk (Kd.R_lower (Kd.R_new' (Kd.R_new' ho0 (Kd.R_lt (by (with_reducible repeat (first | apply Kd.R_alloc | apply Kd.R_drewN | apply Kd.R_drew)); exact HO238.out))) (Kd.R_lt (by (with_reducible repeat (first | apply Kd.R_alloc | apply Kd.R_drewN | apply Kd.R_drew)); exact HO241.out))) (below_size (by repeat (first | (with_reducible first | exact HB.out | apply below_alloc | apply pw_below_drewN | apply below_drew1 | refine below_set ?_ GE225.out | refine below_set ?_ GE226.out | refine below_set ?_ GE227.out) | exact HB.out)))); have n3_ := Aside0.mk (blk_below (g := gb225) (o := .cells #[.int .i64 4, .int .i64 31, .int .i64 2, .int .i64 0, .int .i64 0, .int .i64 0, .int .u64 0, .int .i64 0, .int .i64 0, .int .i64 0] 37 (0, 0)) (by (with_reducible repeat (first | refine blk_drewN ?_ _ | refine blk_drew ?_ | refine blk_alloc ?_ _)); exact BK225.out) hb); have n4_ := Aside0.mk (blk_below (g := gb226) (o := .cells #[.int .i64 12, .int .i64 31, .int .i64 2, .int .i64 2, .int .i64 0, .int .i64 0, .int .u64 0, .int .i64 0, .int .i64 0, .int .i64 0] 37 (0, 0)) (by (with_reducible repeat (first | refine blk_drewN ?_ _ | refine blk_drew ?_ | refine blk_alloc ?_ _)); exact BK226.out) hb); have n5_ := Aside0.mk (blk_below (g := gb227) (o := .cells #[.int .i64 25, .int .i64 1, .int .i64 31, .int .i64 0, .int .i64 0, .int .i64 0, .int .u64 0, .int .i64 0, .int .i64 0, .int .i64 0] 37 (0, 0)) (by (with_reducible repeat (first | refine blk_drewN ?_ _ | refine blk_drew ?_ | refine blk_alloc ?_ _)); exact BK227.out) hb); have n6_ := Aside0.mk (below_step (by repeat (first | (with_reducible first | exact HB.out | apply below_alloc | apply pw_below_drewN | apply below_drew1 | refine below_set ?_ GE225.out | refine below_set ?_ GE226.out | refine below_set ?_ GE227.out) | exact HB.out)) hb); clear HO238; clear HO241; clear BK225; clear BK226; clear BK227; clear HB; have HO238 := n0_; have HO241 := n1_; have HO245 := n2_; have BK225 := n3_; have BK226 := n4_; have BK227 := n5_; have HB := n6_; clear n0_ n1_ n2_ n3_ n4_ n5_ n6_; (try clear hb); (try clear hb2); (try clear hk); (try clear hi); (try clear ho0)) | ((with_reducible refine gate_dst (N := 48) rfl ?_); (try (refine gate_guard (by rfl) ?_; dsimp only)); refine Kd.R_lit (Kd.int .i64) _ 3 ?hg (N := 48) ?hd (xs := ([2] : List Int)) (inner := [.int .i64 2]) (ok := fun _ => True) (okp := fun _ => True) ?hr ?hp (fun _ hk => hk) trivial (Below.refl _ _) (Nat.le_refl _) (by simp) ?_; (case hd => rfl); (case hg => rfl); (case hr => first | (go_simp; done) | (go_simp; rfl)); (case hp => exact (Reps.one (show Kd.M (Kd.int .i64) _ _ _ 2 [.int .i64 2] from rfl) (Reps.none _ _))); intro v247 w49 ho50 hb hg_ hnew_; clear hg_ hnew_; (first | rw [← Ny246.out] at ho50 | (simp only [Int.reduceToNat] at ho50; rw [← Ny246.out] at ho50)); have n0_ := Aside0.mk (Kd.R_elder' (by (with_reducible repeat (first | apply Kd.R_alloc | apply Kd.R_drewN | apply Kd.R_drew)); exact HO238.out) (Kd.R_base ho50) hb); have n1_ := Aside0.mk (Kd.R_elder' (by (with_reducible repeat (first | apply Kd.R_alloc | apply Kd.R_drewN | apply Kd.R_drew)); exact HO241.out) (Kd.R_base ho50) hb); have n2_ := Aside0.mk (Kd.R_elder' (by (with_reducible repeat (first | apply Kd.R_alloc | apply Kd.R_drewN | apply Kd.R_drew)); exact HO245.out) (Kd.R_base ho50) hb); have n3_ := Aside0.mk (Kd.R_lower (Kd.R_new' (Kd.R_new' (Kd.R_new' ho50 (Kd.R_lt (by (with_reducible repeat (first | apply Kd.R_alloc | apply Kd.R_drewN | apply Kd.R_drew)); exact HO238.out))) (Kd.R_lt (by (with_reducible repeat (first | apply Kd.R_alloc | apply Kd.R_drewN | apply Kd.R_drew)); exact HO241.out))) (Kd.R_lt (by (with_reducible repeat (first | apply Kd.R_alloc | apply Kd.R_drewN | apply Kd.R_drew)); exact HO245.out))) (below_size (by repeat (first | (with_reducible first | exact HB.out | apply below_alloc | apply pw_below_drewN | apply below_drew1 | refine below_set ?_ GE225.out | refine below_set ?_ GE226.out | refine below_set ?_ GE227.out) | exact HB.out)))); have n4_ := Aside0.mk (blk_below (g := gb225) (o := .cells #[.int .i64 4, .int .i64 31, .int .i64 2, .int .i64 0, .int .i64 0, .int .i64 0, .int .u64 0, .int .i64 0, .int .i64 0, .int .i64 0] 37 (0, 0)) (by (with_reducible repeat (first | refine blk_drewN ?_ _ | refine blk_drew ?_ | refine blk_alloc ?_ _)); exact BK225.out) hb); have n5_ := Aside0.mk (blk_below (g := gb226) (o := .cells #[.int .i64 12, .int .i64 31, .int .i64 2, .int .i64 2, .int .i64 0, .int .i64 0, .int .u64 0, .int .i64 0, .int .i64 0, .int .i64 0] 37 (0, 0)) (by (with_reducible repeat (first | refine blk_drewN ?_ _ | refine blk_drew ?_ | refine blk_alloc ?_ _)); exact BK226.out) hb); have n6_ := Aside0.mk (blk_below (g := gb227) (o := .cells #[.int .i64 25, .int .i64 1, .int .i64 31, .int .i64 0, .int .i64 0, .int .i64 0, .int .u64 0, .int .i64 0, .int .i64 0, .int .i64 0] 37 (0, 0)) (by (with_reducible repeat (first | refine blk_drewN ?_ _ | refine blk_drew ?_ | refine blk_alloc ?_ _)); exact BK227.out) hb); have n7_ := Aside0.mk (below_step (by repeat (first | (with_reducible first | exact HB.out | apply below_alloc | apply pw_below_drewN | apply below_drew1 | refine below_set ?_ GE225.out | refine below_set ?_ GE226.out | refine below_set ?_ GE227.out) | exact HB.out)) hb); clear HO238; clear HO241; clear HO245; clear BK225; clear BK226; clear BK227; clear HB; have HO238 := n0_; have HO241 := n1_; have HO245 := n2_; have HO248 := n3_; have BK225 := n4_; have BK226 := n5_; have BK227 := n6_; have HB := n7_; clear n0_ n1_ n2_ n3_ n4_ n5_ n6_ n7_; clear hb ho50; obtain ⟨Ao51, co51, eo51⟩ := Kd.R_slice HO245.out; subst eo51; obtain ⟨Ao52, co52, eo52⟩ := Kd.R_slice HO248.out; subst eo52) | (go_at_call 32; (with_reducible refine (cleatref04_Same.calls k _ _ t243 _ _ y246 true _ ?side1 ?side2 ?side3 ?side4 A11.out).mono ?_); (case side1 => repeat (first | exact (Kd.R_reads' HO245.out).2.2 | (with_reducible refine Kd.C_alloc ?_ _) | (with_reducible refine Kd.C_drewN ?_ _) | (with_reducible refine Kd.C_drew ?_))); (case side2 => exact (Kd.R_reads' HO245.out).2.1); (case side3 => repeat (first | exact (Kd.R_reads' HO248.out).2.2 | (with_reducible refine Kd.C_alloc ?_ _) | (with_reducible refine Kd.C_drewN ?_ _) | (with_reducible refine Kd.C_drew ?_))); (case side4 => exact (Kd.R_reads' HO248.out).2.1); rintro e w' ⟨rfl, ⟨nd, rfl⟩⟩; obtain ⟨hcz53_0, hcz53_1, hcz53_2, hcz53_3, hcz53_4, hcz53_5, hcz53_6, hcz53_7, hcz53_8, hcz53_9⟩ := cells10_ BK227.out; have hfz53_0 := fun j => blk_frozen BK227.out j) | (go_at_call 33; (with_reducible refine (inst_Reads.calls k 25 1 31 0 0 0 0 0 0 0 t250 _ A14.out).mono ?_); rintro e w54 ⟨v251, rfl, ho0, hb⟩; have n0_ := Aside0.mk (Kd.R_elder' (by (with_reducible repeat (first | apply Kd.R_alloc | apply Kd.R_drewN | apply Kd.R_drew)); exact HO238.out) (Kd.R_base ho0) hb); have n1_ := Aside0.mk (Kd.R_elder' (by (with_reducible repeat (first | apply Kd.R_alloc | apply Kd.R_drewN | apply Kd.R_drew)); exact HO241.out) (Kd.R_base ho0) hb); have n2_ := Aside0.mk (Kd.R_elder' (by (with_reducible repeat (first | apply Kd.R_alloc | apply Kd.R_drewN | apply Kd.R_drew)); exact HO245.out) (Kd.R_base ho0) hb); have n3_ := Aside0.mk (Kd.R_elder' (by (with_reducible repeat (first | apply Kd.R_alloc | apply Kd.R_drewN | apply Kd.R_drew)); exact HO248.out) (Kd.R_base ho0) hb); have n4_ := Aside0.mk (Kd.R_lower (Kd.R_new' (Kd.R_new' (Kd.R_new' (Kd.R_new' ho0 (Kd.R_lt (by (with_reducible repeat (first | apply Kd.R_alloc | apply Kd.R_drewN | apply Kd.R_drew)); exact HO238.out))) (Kd.R_lt (by (with_reducible repeat (first | apply Kd.R_alloc | apply Kd.R_drewN | apply Kd.R_drew)); exact HO241.out))) (Kd.R_lt (by (with_reducible repeat (first | apply Kd.R_alloc | apply Kd.R_drewN | apply Kd.R_drew)); exact HO245.out))) (Kd.R_lt (by (with_reducible repeat (first | apply Kd.R_alloc | apply Kd.R_drewN | apply Kd.R_drew)); exact HO248.out))) (below_size (by repeat (first | (with_reducible first | exact HB.out | apply below_alloc | apply pw_below_drewN | apply below_drew1 | refine below_set ?_ GE225.out | refine below_set ?_ GE226.out | refine below_set ?_ GE227.out) | exact HB.out)))); have n5_ := Aside0.mk (blk_below (g := gb225) (o := .cells #[.int .i64 4, .int .i64 31, .int .i64 2, .int .i64 0, .int .i64 0, .int .i64 0, .int .u64 0, .int .i64 0, .int .i64 0, .int .i64 0] 37 (0, 0)) (by (with_reducible repeat (first | refine blk_drewN ?_ _ | refine blk_drew ?_ | refine blk_alloc ?_ _)); exact BK225.out) hb); have n6_ := Aside0.mk (blk_below (g := gb226) (o := .cells #[.int .i64 12, .int .i64 31, .int .i64 2, .int .i64 2, .int .i64 0, .int .i64 0, .int .u64 0, .int .i64 0, .int .i64 0, .int .i64 0] 37 (0, 0)) (by (with_reducible repeat (first | refine blk_drewN ?_ _ | refine blk_drew ?_ | refine blk_alloc ?_ _)); exact BK226.out) hb); have n7_ := Aside0.mk (blk_below (g := gb227) (o := .cells #[.int .i64 25, .int .i64 1, .int .i64 31, .int .i64 0, .int .i64 0, .int .i64 0, .int .u64 0, .int .i64 0, .int .i64 0, .int .i64 0] 37 (0, 0)) (by (with_reducible repeat (first | refine blk_drewN ?_ _ | refine blk_drew ?_ | refine blk_alloc ?_ _)); exact BK227.out) hb); have n8_ := Aside0.mk (below_step (by repeat (first | (with_reducible first | exact HB.out | apply below_alloc | apply pw_below_drewN | apply below_drew1 | refine below_set ?_ GE225.out | refine below_set ?_ GE226.out | refine below_set ?_ GE227.out) | exact HB.out)) hb); clear HO238; clear HO241; clear HO245; clear HO248; clear BK225; clear BK226; clear BK227; clear HB; have HO238 := n0_; have HO241 := n1_; have HO245 := n2_; have HO248 := n3_; have HO252 := n4_; have BK225 := n5_; have BK226 := n6_; have BK227 := n7_; have HB := n8_; clear n0_ n1_ n2_ n3_ n4_ n5_ n6_ n7_ n8_; (try clear hb); (try clear hb2); (try clear hk); (try clear hi); (try clear ho0)) | ((with_reducible refine gate_dst (N := 58) rfl ?_); (try (refine gate_guard (by rfl) ?_; dsimp only)); refine Kd.R_lit (Kd.int .i64) _ 3 ?hg (N := 58) ?hd (xs := ([1, 31] : List Int)) (inner := [.int .i64 1, .int .i64 31]) (ok := fun _ => True) (okp := fun _ => True) ?hr ?hp (fun _ hk => hk) trivial (Below.refl _ _) (Nat.le_refl _) (by simp) ?_; (case hd => rfl); (case hg => rfl); (case hr => first | (go_simp; done) | (go_simp; rfl)); (case hp => exact (Reps.one (show Kd.M (Kd.int .i64) _ _ _ 1 [.int .i64 1] from rfl) (Reps.one (show Kd.M (Kd.int .i64) _ _ _ 31 [.int .i64 31] from rfl) (Reps.none _ _)))); intro v254 w55 ho56 hb hg_ hnew_; clear hg_ hnew_; (first | rw [← Ny253.out] at ho56 | (simp only [Int.reduceToNat] at ho56; rw [← Ny253.out] at ho56)); have n0_ := Aside0.mk (Kd.R_elder' (by (with_reducible repeat (first | apply Kd.R_alloc | apply Kd.R_drewN | apply Kd.R_drew)); exact HO238.out) (Kd.R_base ho56) hb); have n1_ := Aside0.mk (Kd.R_elder' (by (with_reducible repeat (first | apply Kd.R_alloc | apply Kd.R_drewN | apply Kd.R_drew)); exact HO241.out) (Kd.R_base ho56) hb); have n2_ := Aside0.mk (Kd.R_elder' (by (with_reducible repeat (first | apply Kd.R_alloc | apply Kd.R_drewN | apply Kd.R_drew)); exact HO245.out) (Kd.R_base ho56) hb); have n3_ := Aside0.mk (Kd.R_elder' (by (with_reducible repeat (first | apply Kd.R_alloc | apply Kd.R_drewN | apply Kd.R_drew)); exact HO248.out) (Kd.R_base ho56) hb); have n4_ := Aside0.mk (Kd.R_elder' (by (with_reducible repeat (first | apply Kd.R_alloc | apply Kd.R_drewN | apply Kd.R_drew)); exact HO252.out) (Kd.R_base ho56) hb); have n5_ := Aside0.mk (Kd.R_lower (Kd.R_new' (Kd.R_new' (Kd.R_new' (Kd.R_new' (Kd.R_new' ho56 (Kd.R_lt (by (with_reducible repeat (first | apply Kd.R_alloc | apply Kd.R_drewN | apply Kd.R_drew)); exact HO238.out))) (Kd.R_lt (by (with_reducible repeat (first | apply Kd.R_alloc | apply Kd.R_drewN | apply Kd.R_drew)); exact HO241.out))) (Kd.R_lt (by (with_reducible repeat (first | apply Kd.R_alloc | apply Kd.R_drewN | apply Kd.R_drew)); exact HO245.out))) (Kd.R_lt (by (with_reducible repeat (first | apply Kd.R_alloc | apply Kd.R_drewN | apply Kd.R_drew)); exact HO248.out))) (Kd.R_lt (by (with_reducible repeat (first | apply Kd.R_alloc | apply Kd.R_drewN | apply Kd.R_drew)); exact HO252.out))) (below_size (by repeat (first | (with_reducible first | exact HB.out | apply below_alloc | apply pw_below_drewN | apply below_drew1 | refine below_set ?_ GE225.out | refine below_set ?_ GE226.out | refine below_set ?_ GE227.out) | exact HB.out)))); have n6_ := Aside0.mk (blk_below (g := gb225) (o := .cells #[.int .i64 4, .int .i64 31, .int .i64 2, .int .i64 0, .int .i64 0, .int .i64 0, .int .u64 0, .int .i64 0, .int .i64 0, .int .i64 0] 37 (0, 0)) (by (with_reducible repeat (first | refine blk_drewN ?_ _ | refine blk_drew ?_ | refine blk_alloc ?_ _)); exact BK225.out) hb); have n7_ := Aside0.mk (blk_below (g := gb226) (o := .cells #[.int .i64 12, .int .i64 31, .int .i64 2, .int .i64 2, .int .i64 0, .int .i64 0, .int .u64 0, .int .i64 0, .int .i64 0, .int .i64 0] 37 (0, 0)) (by (with_reducible repeat (first | refine blk_drewN ?_ _ | refine blk_drew ?_ | refine blk_alloc ?_ _)); exact BK226.out) hb); have n8_ := Aside0.mk (blk_below (g := gb227) (o := .cells #[.int .i64 25, .int .i64 1, .int .i64 31, .int .i64 0, .int .i64 0, .int .i64 0, .int .u64 0, .int .i64 0, .int .i64 0, .int .i64 0] 37 (0, 0)) (by (with_reducible repeat (first | refine blk_drewN ?_ _ | refine blk_drew ?_ | refine blk_alloc ?_ _)); exact BK227.out) hb); have n9_ := Aside0.mk (below_step (by repeat (first | (with_reducible first | exact HB.out | apply below_alloc | apply pw_below_drewN | apply below_drew1 | refine below_set ?_ GE225.out | refine below_set ?_ GE226.out | refine below_set ?_ GE227.out) | exact HB.out)) hb); clear HO238; clear HO241; clear HO245; clear HO248; clear HO252; clear BK225; clear BK226; clear BK227; clear HB; have HO238 := n0_; have HO241 := n1_; have HO245 := n2_; have HO248 := n3_; have HO252 := n4_; have HO255 := n5_; have BK225 := n6_; have BK226 := n7_; have BK227 := n8_; have HB := n9_; clear n0_ n1_ n2_ n3_ n4_ n5_ n6_ n7_ n8_ n9_; clear hb ho56; obtain ⟨Ao57, co57, eo57⟩ := Kd.R_slice HO252.out; subst eo57; obtain ⟨Ao58, co58, eo58⟩ := Kd.R_slice HO255.out; subst eo58) | (go_at_call 32; (with_reducible refine (cleatref04_Same.calls k _ _ t250 _ _ y253 true _ ?side1 ?side2 ?side3 ?side4 A15.out).mono ?_); (case side1 => repeat (first | exact (Kd.R_reads' HO252.out).2.2 | (with_reducible refine Kd.C_alloc ?_ _) | (with_reducible refine Kd.C_drewN ?_ _) | (with_reducible refine Kd.C_drew ?_))); (case side2 => exact (Kd.R_reads' HO252.out).2.1); (case side3 => repeat (first | exact (Kd.R_reads' HO255.out).2.2 | (with_reducible refine Kd.C_alloc ?_ _) | (with_reducible refine Kd.C_drewN ?_ _) | (with_reducible refine Kd.C_drew ?_))); (case side4 => exact (Kd.R_reads' HO255.out).2.1); rintro e w' ⟨rfl, ⟨nd, rfl⟩⟩; obtain ⟨hcz59_0, hcz59_1, hcz59_2, hcz59_3, hcz59_4, hcz59_5, hcz59_6, hcz59_7, hcz59_8, hcz59_9⟩ := cells10_ BK225.out; have hfz59_0 := fun j => blk_frozen BK225.out j) | (go_at_call 30; (with_reducible refine (inst_Is.calls k 4 31 2 0 0 0 0 0 0 0 true _ A20.out).mono ?_); rintro e w60 ⟨rfl, hb⟩; have n0_ := Aside0.mk (Kd.R_below (by (with_reducible repeat (first | apply Kd.R_alloc | apply Kd.R_drewN | apply Kd.R_drew)); exact HO238.out) hb); have n1_ := Aside0.mk (Kd.R_below (by (with_reducible repeat (first | apply Kd.R_alloc | apply Kd.R_drewN | apply Kd.R_drew)); exact HO241.out) hb); have n2_ := Aside0.mk (Kd.R_below (by (with_reducible repeat (first | apply Kd.R_alloc | apply Kd.R_drewN | apply Kd.R_drew)); exact HO245.out) hb); have n3_ := Aside0.mk (Kd.R_below (by (with_reducible repeat (first | apply Kd.R_alloc | apply Kd.R_drewN | apply Kd.R_drew)); exact HO248.out) hb); have n4_ := Aside0.mk (Kd.R_below (by (with_reducible repeat (first | apply Kd.R_alloc | apply Kd.R_drewN | apply Kd.R_drew)); exact HO252.out) hb); have n5_ := Aside0.mk (Kd.R_below (by (with_reducible repeat (first | apply Kd.R_alloc | apply Kd.R_drewN | apply Kd.R_drew)); exact HO255.out) hb); have n6_ := Aside0.mk (blk_below (g := gb225) (o := .cells #[.int .i64 4, .int .i64 31, .int .i64 2, .int .i64 0, .int .i64 0, .int .i64 0, .int .u64 0, .int .i64 0, .int .i64 0, .int .i64 0] 37 (0, 0)) (by (with_reducible repeat (first | refine blk_drewN ?_ _ | refine blk_drew ?_ | refine blk_alloc ?_ _)); exact BK225.out) hb); have n7_ := Aside0.mk (blk_below (g := gb226) (o := .cells #[.int .i64 12, .int .i64 31, .int .i64 2, .int .i64 2, .int .i64 0, .int .i64 0, .int .u64 0, .int .i64 0, .int .i64 0, .int .i64 0] 37 (0, 0)) (by (with_reducible repeat (first | refine blk_drewN ?_ _ | refine blk_drew ?_ | refine blk_alloc ?_ _)); exact BK226.out) hb); have n8_ := Aside0.mk (blk_below (g := gb227) (o := .cells #[.int .i64 25, .int .i64 1, .int .i64 31, .int .i64 0, .int .i64 0, .int .i64 0, .int .u64 0, .int .i64 0, .int .i64 0, .int .i64 0] 37 (0, 0)) (by (with_reducible repeat (first | refine blk_drewN ?_ _ | refine blk_drew ?_ | refine blk_alloc ?_ _)); exact BK227.out) hb); have n9_ := Aside0.mk (below_step (by repeat (first | (with_reducible first | exact HB.out | apply below_alloc | apply pw_below_drewN | apply below_drew1 | refine below_set ?_ GE225.out | refine below_set ?_ GE226.out | refine below_set ?_ GE227.out) | exact HB.out)) hb); clear HO238; clear HO241; clear HO245; clear HO248; clear HO252; clear HO255; clear BK225; clear BK226; clear BK227; clear HB; have HO238 := n0_; have HO241 := n1_; have HO245 := n2_; have HO248 := n3_; have HO252 := n4_; have HO255 := n5_; have BK225 := n6_; have BK226 := n7_; have BK227 := n8_; have HB := n9_; clear n0_ n1_ n2_ n3_ n4_ n5_ n6_ n7_ n8_ n9_; (try clear hb); (try clear hb2); (try clear hk); (try clear hi)) | (go_at_call 30; (with_reducible refine (inst_Is.calls k 0 0 0 0 0 0 0 0 0 0 false _ A22.out).mono ?_); rintro e w61 ⟨rfl, hb⟩; have n0_ := Aside0.mk (Kd.R_below (by (with_reducible repeat (first | apply Kd.R_alloc | apply Kd.R_drewN | apply Kd.R_drew)); exact HO238.out) hb); have n1_ := Aside0.mk (Kd.R_below (by (with_reducible repeat (first | apply Kd.R_alloc | apply Kd.R_drewN | apply Kd.R_drew)); exact HO241.out) hb); have n2_ := Aside0.mk (Kd.R_below (by (with_reducible repeat (first | apply Kd.R_alloc | apply Kd.R_drewN | apply Kd.R_drew)); exact HO245.out) hb); have n3_ := Aside0.mk (Kd.R_below (by (with_reducible repeat (first | apply Kd.R_alloc | apply Kd.R_drewN | apply Kd.R_drew)); exact HO248.out) hb); have n4_ := Aside0.mk (Kd.R_below (by (with_reducible repeat (first | apply Kd.R_alloc | apply Kd.R_drewN | apply Kd.R_drew)); exact HO252.out) hb); have n5_ := Aside0.mk (Kd.R_below (by (with_reducible repeat (first | apply Kd.R_alloc | apply Kd.R_drewN | apply Kd.R_drew)); exact HO255.out) hb); have n6_ := Aside0.mk (blk_below (g := gb225) (o := .cells #[.int .i64 4, .int .i64 31, .int .i64 2, .int .i64 0, .int .i64 0, .int .i64 0, .int .u64 0, .int .i64 0, .int .i64 0, .int .i64 0] 37 (0, 0)) (by (with_reducible repeat (first | refine blk_drewN ?_ _ | refine blk_drew ?_ | refine blk_alloc ?_ _)); exact BK225.out) hb); have n7_ := Aside0.mk (blk_below (g := gb226) (o := .cells #[.int .i64 12, .int .i64 31, .int .i64 2, .int .i64 2, .int .i64 0, .int .i64 0, .int .u64 0, .int .i64 0, .int .i64 0, .int .i64 0] 37 (0, 0)) (by (with_reducible repeat (first | refine blk_drewN ?_ _ | refine blk_drew ?_ | refine blk_alloc ?_ _)); exact BK226.out) hb); have n8_ := Aside0.mk (blk_below (g := gb227) (o := .cells #[.int .i64 25, .int .i64 1, .int .i64 31, .int .i64 0, .int .i64 0, .int .i64 0, .int .u64 0, .int .i64 0, .int .i64 0, .int .i64 0] 37 (0, 0)) (by (with_reducible repeat (first | refine blk_drewN ?_ _ | refine blk_drew ?_ | refine blk_alloc ?_ _)); exact BK227.out) hb); have n9_ := Aside0.mk (below_step (by repeat (first | (with_reducible first | exact HB.out | apply below_alloc | apply pw_below_drewN | apply below_drew1 | refine below_set ?_ GE225.out | refine below_set ?_ GE226.out | refine below_set ?_ GE227.out) | exact HB.out)) hb); clear HO238; clear HO241; clear HO245; clear HO248; clear HO252; clear HO255; clear BK225; clear BK226; clear BK227; clear HB; have HO238 := n0_; have HO241 := n1_; have HO245 := n2_; have HO248 := n3_; have HO252 := n4_; have HO255 := n5_; have BK225 := n6_; have BK226 := n7_; have BK227 := n8_; have HB := n9_; clear n0_ n1_ n2_ n3_ n4_ n5_ n6_ n7_ n8_ n9_; (try clear hb); (try clear hb2); (try clear hk); (try clear hi)) | (go_at_call 36; (with_reducible refine (inst_Shape.calls 29 t259 _ A24.out).mono ?_); rintro e w62 ⟨rfl, hb⟩; have n0_ := Aside0.mk (Kd.R_below (by (with_reducible repeat (first | apply Kd.R_alloc | apply Kd.R_drewN | apply Kd.R_drew)); exact HO238.out) hb); have n1_ := Aside0.mk (Kd.R_below (by (with_reducible repeat (first | apply Kd.R_alloc | apply Kd.R_drewN | apply Kd.R_drew)); exact HO241.out) hb); have n2_ := Aside0.mk (Kd.R_below (by (with_reducible repeat (first | apply Kd.R_alloc | apply Kd.R_drewN | apply Kd.R_drew)); exact HO245.out) hb); have n3_ := Aside0.mk (Kd.R_below (by (with_reducible repeat (first | apply Kd.R_alloc | apply Kd.R_drewN | apply Kd.R_drew)); exact HO248.out) hb); have n4_ := Aside0.mk (Kd.R_below (by (with_reducible repeat (first | apply Kd.R_alloc | apply Kd.R_drewN | apply Kd.R_drew)); exact HO252.out) hb); have n5_ := Aside0.mk (Kd.R_below (by (with_reducible repeat (first | apply Kd.R_alloc | apply Kd.R_drewN | apply Kd.R_drew)); exact HO255.out) hb); have n6_ := Aside0.mk (blk_below (g := gb225) (o := .cells #[.int .i64 4, .int .i64 31, .int .i64 2, .int .i64 0, .int .i64 0, .int .i64 0, .int .u64 0, .int .i64 0, .int .i64 0, .int .i64 0] 37 (0, 0)) (by (with_reducible repeat (first | refine blk_drewN ?_ _ | refine blk_drew ?_ | refine blk_alloc ?_ _)); exact BK225.out) hb); have n7_ := Aside0.mk (blk_below (g := gb226) (o := .cells #[.int .i64 12, .int .i64 31, .int .i64 2, .int .i64 2, .int .i64 0, .int .i64 0, .int .u64 0, .int .i64 0, .int .i64 0, .int .i64 0] 37 (0, 0)) (by (with_reducible repeat (first | refine blk_drewN ?_ _ | refine blk_drew ?_ | refine blk_alloc ?_ _)); exact BK226.out) hb); have n8_ := Aside0.mk (blk_below (g := gb227) (o := .cells #[.int .i64 25, .int .i64 1, .int .i64 31, .int .i64 0, .int .i64 0, .int .i64 0, .int .u64 0, .int .i64 0, .int .i64 0, .int .i64 0] 37 (0, 0)) (by (with_reducible repeat (first | refine blk_drewN ?_ _ | refine blk_drew ?_ | refine blk_alloc ?_ _)); exact BK227.out) hb); have n9_ := Aside0.mk (below_step (by repeat (first | (with_reducible first | exact HB.out | apply below_alloc | apply pw_below_drewN | apply below_drew1 | refine below_set ?_ GE225.out | refine below_set ?_ GE226.out | refine below_set ?_ GE227.out) | exact HB.out)) hb); clear HO238; clear HO241; clear HO245; clear HO248; clear HO252; clear HO255; clear BK225; clear BK226; clear BK227; clear HB; have HO238 := n0_; have HO241 := n1_; have HO245 := n2_; have HO248 := n3_; have HO252 := n4_; have HO255 := n5_; have BK225 := n6_; have BK226 := n7_; have BK227 := n8_; have HB := n9_; clear n0_ n1_ n2_ n3_ n4_ n5_ n6_ n7_ n8_ n9_; (try clear hb); (try clear hb2); (try clear hk); (try clear hi)))
            go_ret
            exact ⟨by first | rfl | (simp [errW_none, errW_some] <;> rfl) | (simp [*, errW_none, errW_some] <;> rfl), by repeat (first | (with_reducible first | exact HB.out | apply below_alloc | apply pw_below_drewN | apply below_drew1 | refine below_set ?_ GE225.out | refine below_set ?_ GE226.out | refine below_set ?_ GE227.out) | exact HB.out)⟩
          ·
           replace c21 := Bool.eq_false_iff.mpr c21
           subst c21
           have H1 : (none) = some r := by rw [if_neg (show ¬ (false = true) by decide)] at H; exact H
           clear H
           have H := H1
           clear H1
           exact absurd H (by simp)
         ·
          rw [if_neg c19] at H
          exact absurd H (by simp)
        ·
         rw [if_neg c18] at H
         exact absurd H (by simp)
      ·
       replace c16 := Bool.eq_false_iff.mpr c16
       subst c16
       have H1 : (none) = some r := by rw [if_neg (show ¬ (false = true) by decide)] at H; exact H
       clear H
       have H := H1
       clear H1
       exact absurd H (by simp)
    ·
     replace c12 := Bool.eq_false_iff.mpr c12
     subst c12
     have H1 : (none) = some r := by rw [if_neg (show ¬ (false = true) by decide)] at H; exact H
     clear H
     have H := H1
     clear H1
     exact absurd H (by simp)
   ·
    replace c9 := Bool.eq_false_iff.mpr c9
    subst c9
    have H1 : (none) = some r := by rw [if_neg (show ¬ (false = true) by decide)] at H; exact H
    clear H
    have H := H1
    clear H1
    exact absurd H (by simp)
  ·
   rw [if_neg c8] at H
   exact absurd H (by simp)
 ·
  replace c7 := Bool.eq_false_iff.mpr c7
  subst c7
  have H1 : (none) = some r := by rw [if_neg (show ¬ (false = true) by decide)] at H; exact H
  clear H
  have H := H1
  clear H1
  exact absurd H (by simp)
end Go.Proofs.YtbklmlbmbnnjkaaDoor.R
